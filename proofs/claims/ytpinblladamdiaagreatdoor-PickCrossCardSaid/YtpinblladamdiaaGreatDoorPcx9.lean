-- Written for this claim by pg.py, a program of this session's, out of the kit's printer. Not trusted: Lean checks it.
import Derived.Test.YtpinblladamdiaaGreatDoorPcx0
import Derived.Test.YtpinblladamdiaaGreatDoorPcx7
import Derived.Test.YtpinblladamdiaaGreatDoorPcx8
namespace Go.Proofs.YtpinblladamdiaaGreatDoor.Pc
open Go.RowKit Go.Proofs.YtpinblladamdiaaGreatDoorW.PrintWords Go.Proofs.YtpinblladamdiaaGreatDoorW.PrintLast Go.Proofs.YtpinblladamdiaaGreatDoorW.PrintMore
attribute [local go_sem] max2_int min2_int max_two min_two max_three min_three max_four min_four   -- for this text's walks alone
attribute [local go_sem] cat_eq ext_eq
attribute [local go_sem high] stringOp_gtr binOp_gtr
set_option linter.unusedVariables false
set_option linter.unusedSimpArgs false
/-! ### value_Two: function 37 -/
def value_Two.f (k : Nat) (a0 : Int) (a1_0 : Int) (a1_1 : Int) (a1_2 : ByteArray) (a2_0 : Int) (a2_1 : Int) (a2_2 : ByteArray) : Option (Int × Int × ByteArray) := if a0 = 8 then ((value_Number.f k a1_0 a1_1 a1_2).bind fun bt226 => ((value_Number.f k a2_0 a2_1 a2_2).bind fun bt229 => ((value_IsBad.f bt226.1 bt226.2.1 bt226.2.2).bind fun t232 => (if t232 = true then (some (bt226.1, bt226.2.1, bt226.2.2)) else ((value_IsBad.f bt229.1 bt229.2.1 bt229.2.2).bind fun t233 => (if t233 = true then (some (bt229.1, bt229.2.1, bt229.2.2)) else ((value_reckon.f 8 bt226.2.1 bt229.2.1).bind fun bt234 => (some (bt234.1, bt234.2.1, bt234.2.2))))))))) else (none)
set_option maxHeartbeats 8000000 in
set_option maxRecDepth 100000 in
theorem value_Two.calls (k : Nat) (a0 : Int) (a1_0 : Int) (a1_1 : Int) (a1_2 : ByteArray) (a2_0 : Int) (a2_1 : Int) (a2_2 : ByteArray) (r1 : Int) (r2 : Int) (r3 : ByteArray) (w : World) (h : value_Two.f k a0 a1_0 a1_1 a1_2 a2_0 a2_1 a2_2 = some (r1, r2, r3)) (hGL : GL w := by repeat (first | assumption | exact GL.of_below (by assumption) (by assumption) | exact GL.of_below (by assumption) (Aside0.out (by assumption)) | with_reducible apply GL.drewN | with_reducible apply GL.drew | with_reducible apply GL.alloc | with_reducible refine GL.set (by assumption) (by assumption) ?_ _ _)) :
  Calls Tryz.prog 37 #[.int .i64 a0, .agg #[.int .i64 a1_0, .int .i64 a1_1, .string a1_2], .agg #[.int .i64 a2_0, .int .i64 a2_1, .string a2_2]] w fun e w' => e = .returned (.agg #[.int .i64 r1, .int .i64 r2, .string r3]) ∧ Below w.heap.size w w' := by
 have hu34 := Tryz.underlying34
 have HB := mk0 (Below.refl w.heap.size w)
 have H : (if a0 = 8 then ((value_Number.f k a1_0 a1_1 a1_2).bind fun bt226 => ((value_Number.f k a2_0 a2_1 a2_2).bind fun bt229 => ((value_IsBad.f bt226.1 bt226.2.1 bt226.2.2).bind fun t232 => (if t232 = true then (some (bt226.1, bt226.2.1, bt226.2.2)) else ((value_IsBad.f bt229.1 bt229.2.1 bt229.2.2).bind fun t233 => (if t233 = true then (some (bt229.1, bt229.2.1, bt229.2.2)) else ((value_reckon.f 8 bt226.2.1 bt229.2.1).bind fun bt234 => (some (bt234.1, bt234.2.1, bt234.2.2))))))))) else (none)) = some (r1, r2, r3) := h
 clear h
 by_cases c4 : a0 = 8
 ·subst c4
  have H1 : ((value_Number.f k a1_0 a1_1 a1_2).bind fun bt226 => ((value_Number.f k a2_0 a2_1 a2_2).bind fun bt229 => ((value_IsBad.f bt226.1 bt226.2.1 bt226.2.2).bind fun t232 => (if t232 = true then (some (bt226.1, bt226.2.1, bt226.2.2)) else ((value_IsBad.f bt229.1 bt229.2.1 bt229.2.2).bind fun t233 => (if t233 = true then (some (bt229.1, bt229.2.1, bt229.2.2)) else ((value_reckon.f 8 bt226.2.1 bt229.2.1).bind fun bt234 => (some (bt234.1, bt234.2.1, bt234.2.2))))))))) = some (r1, r2, r3) := by rw [if_pos rfl] at H; exact H
  clear H
  have H := H1
  clear H1
  replace H := Option.bind_eq_some_iff.mp H
  obtain ⟨⟨t226, t227, t228⟩, A50, H⟩ := H
  replace H : ((value_Number.f k a2_0 a2_1 a2_2).bind fun bt229 => ((value_IsBad.f t226 t227 t228).bind fun t232 => (if t232 = true then (some (t226, t227, t228)) else ((value_IsBad.f bt229.1 bt229.2.1 bt229.2.2).bind fun t233 => (if t233 = true then (some (bt229.1, bt229.2.1, bt229.2.2)) else ((value_reckon.f 8 t227 bt229.2.1).bind fun bt234 => (some (bt234.1, bt234.2.1, bt234.2.2)))))))) = some (r1, r2, r3) := H
  have A5 := mk0 A50
  clear A50
  replace H := Option.bind_eq_some_iff.mp H
  obtain ⟨⟨t229, t230, t231⟩, A60, H⟩ := H
  replace H : ((value_IsBad.f t226 t227 t228).bind fun t232 => (if t232 = true then (some (t226, t227, t228)) else ((value_IsBad.f t229 t230 t231).bind fun t233 => (if t233 = true then (some (t229, t230, t231)) else ((value_reckon.f 8 t227 t230).bind fun bt234 => (some (bt234.1, bt234.2.1, bt234.2.2))))))) = some (r1, r2, r3) := H
  have A6 := mk0 A60
  clear A60
  replace H := Option.bind_eq_some_iff.mp H
  obtain ⟨t232, A70, H⟩ := H
  replace H : (if t232 = true then (some (t226, t227, t228)) else ((value_IsBad.f t229 t230 t231).bind fun t233 => (if t233 = true then (some (t229, t230, t231)) else ((value_reckon.f 8 t227 t230).bind fun bt234 => (some (bt234.1, bt234.2.1, bt234.2.2)))))) = some (r1, r2, r3) := H
  have A7 := mk0 A70
  clear A70
  by_cases c8 : t232 = true
  ·subst c8
   have H1 : (some (t226, t227, t228)) = some (r1, r2, r3) := by rw [if_pos rfl] at H; exact H
   clear H
   have H := H1
   clear H1
   simp only [Option.some.injEq, Prod.mk.injEq] at H
   obtain ⟨rfl, rfl, rfl⟩ := H
   go_enter Tryz.func37, Tryz.ntmps37
   try go_wp2_with (first | ((with_reducible refine gate_dst (N := 4) rfl ?_); refine box_event ?hg (N := 4) ?hd (cs := #[.int .i64 a1_0, .int .i64 a1_1, .string a1_2]) (t := 34) ?hr ?_; (case hd => rfl); (case hg => rfl); (case hr => first | (go_simp; done) | (go_simp; rfl)); intro gb223 hg w9 hbox hb; have BK223 := mk0 hbox; have GW223 := mk0 (szA (w := w) hg); have GE223 := mk0 (szA (w := w) hg); replace HB := mk0 (below_step hbA hb); clear hb hbox hg) | ((with_reducible refine gate_dst (N := 5) rfl ?_); refine box_event ?hg (N := 5) ?hd (cs := #[.int .i64 a2_0, .int .i64 a2_1, .string a2_2]) (t := 34) ?hr ?_; (case hd => rfl); (case hg => rfl); (case hr => first | (go_simp; done) | (go_simp; rfl)); intro gb224 hg w10 hbox hb; have BK224 := mk0 hbox; have GW224 := mk0 (szB (w := w) hg); have GE224 := mk0 (szB (w := w) hg); have NB223_224 := mk0 (neA (g := gb223) hg); have NB224_223 := mk0 ((neA (g := gb223) hg).symm); replace BK223 := mk0 (bbA (g := gb223) hb); replace HB := mk0 (below_step hbB hb); clear hb hbox hg) | ((with_reducible refine gate_dst (N := 6) rfl ?_); refine box_event ?hg (N := 6) ?hd (cs := #[.int .i64 0, .int .i64 0, .string (⟨#[]⟩ : ByteArray)]) (t := 34) ?hr ?_; (case hd => rfl); (case hg => rfl); (case hr => first | (go_simp; done) | (go_simp; rfl)); intro gb225 hg w11 hbox hb; have BK225 := mk0 hbox; have GW225 := mk0 (szB (w := w) hg); have GE225 := mk0 (szB (w := w) hg); have NB223_225 := mk0 (neA (g := gb223) hg); have NB225_223 := mk0 ((neA (g := gb223) hg).symm); have NB224_225 := mk0 (neA (g := gb224) hg); have NB225_224 := mk0 ((neA (g := gb224) hg).symm); replace BK223 := mk0 (bbA (g := gb223) hb); replace BK224 := mk0 (bbA (g := gb224) hb); replace HB := mk0 (below_step hbB hb); clear hb hbox hg))
   replace BK223 := mk0 (blk_drew BK223.out)
   replace BK224 := mk0 (blk_drew BK224.out)
   replace BK225 := mk0 (blk_drew BK225.out)
   replace HB := mk0 (below_drew1 HB.out)
   refine start_ (n := 6) (S := fun w' => w'.cell? ⟨gb223, 0, none⟩ = some (.int .i64 a1_0) ∧ w'.cell? ⟨gb223, 1, none⟩ = some (.int .i64 a1_1) ∧ w'.cell? ⟨gb223, 2, none⟩ = some (.string a1_2) ∧ w'.cell? ⟨gb224, 0, none⟩ = some (.int .i64 a2_0) ∧ w'.cell? ⟨gb224, 1, none⟩ = some (.int .i64 a2_1) ∧ w'.cell? ⟨gb224, 2, none⟩ = some (.string a2_2)) (ds := [4, 5]) #[false, false, false, false, false, false] (by kernel_rfl) rfl rfl ⟨(blk_cell BK223.out 0).trans rfl, (blk_cell BK223.out 1).trans rfl, (blk_cell BK223.out 2).trans rfl, (blk_cell BK224.out 0).trans rfl, (blk_cell BK224.out 1).trans rfl, (blk_cell BK224.out 2).trans rfl⟩ (fun hHeld => ?_)
   generalize w11.drew = w12 at BK223 BK224 BK225 HB hHeld ⊢
   refine take_ (i := 0) (N := some 20) (v := ?_) (a' := ?_) #[true, false, false, false, false, false] rfl rfl (by kernel_rfl) (fun _ _ _ h => h) (Or.inl ⟨by rfl, ?_⟩) hHeld ?_ ?_
   rotate_left
   ·rintro w' ⟨s0, s1, s2, s3, s4, s5⟩
    go_simp
    with_reducible rfl
   rotate_left
   ·exact puA
   refine take_ (i := 2) (N := some 22) (v := ?_) (a' := ?_) #[true, false, true, false, false, false] rfl rfl (by kernel_rfl) (fun _ _ _ h => h) (Or.inl ⟨by rfl, ?_⟩) hHeld ?_ ?_
   rotate_left
   ·rintro w' ⟨s0, s1, s2, s3, s4, s5⟩
    go_simp
    with_reducible rfl
   rotate_left
   ·exact puA
   refine one_ (i := 1) (N := some 21) #[true, true, true, false, false, false] rfl rfl (by kernel_rfl) (by decide) (fun K hK => ?_)
   refine goes_ Tryz.func63 (by kernel_rfl) rfl #[.agg #[.int .i64 a1_0, .int .i64 a1_1, .string a1_2]] (by rfl) rfl rfl (by (try simp only [List.map_toArray, List.map_cons, List.map_nil]); first | done | rfl | (simp only [List.length_drop, List.length_take]; rfl)) ?_
   with_reducible refine (value_Number.calls k a1_0 a1_1 a1_2 t226 t227 t228 _ A5.out).mono ?_
   rintro e w13 ⟨rfl, hb⟩
   refine ⟨_, rfl, ?_⟩
   replace BK223 := mk0 (bbA (g := gb223) hb)
   replace BK224 := mk0 (bbA (g := gb224) hb)
   replace BK225 := mk0 (bbA (g := gb225) hb)
   replace HB := mk0 (below_step hbB hb)
   (try clear hb)
   (try clear hb2)
   (try clear hk)
   (try clear hi)
   refine hK.out _ _ ⟨(blk_cell BK223.out 0).trans rfl, (blk_cell BK223.out 1).trans rfl, (blk_cell BK223.out 2).trans rfl, (blk_cell BK224.out 0).trans rfl, (blk_cell BK224.out 1).trans rfl, (blk_cell BK224.out 2).trans rfl⟩ (fun hHeld => ?_)
   clear hK K
   refine norm_ (a' := ?_) ?_ ?_
   rotate_left
   ·show Act.put _ (some 21) _ = _
    simp only [Act.put, List.setIfInBounds_toArray, List.set_cons_zero, List.set_cons_succ, i64_w, i32_w]
    rfl
   refine one_ (i := 3) (N := some 23) #[true, true, true, true, false, false] rfl rfl (by kernel_rfl) (by decide) (fun K hK => ?_)
   refine goes_ Tryz.func63 (by kernel_rfl) rfl #[.agg #[.int .i64 a2_0, .int .i64 a2_1, .string a2_2]] (by rfl) rfl rfl (by (try simp only [List.map_toArray, List.map_cons, List.map_nil]); first | done | rfl | (simp only [List.length_drop, List.length_take]; rfl)) ?_
   with_reducible refine (value_Number.calls k a2_0 a2_1 a2_2 t229 t230 t231 _ A6.out).mono ?_
   rintro e w14 ⟨rfl, hb⟩
   refine ⟨_, rfl, ?_⟩
   replace BK223 := mk0 (bbA (g := gb223) hb)
   replace BK224 := mk0 (bbA (g := gb224) hb)
   replace BK225 := mk0 (bbA (g := gb225) hb)
   replace HB := mk0 (below_step hbB hb)
   (try clear hb)
   (try clear hb2)
   (try clear hk)
   (try clear hi)
   refine hK.out _ _ ⟨(blk_cell BK223.out 0).trans rfl, (blk_cell BK223.out 1).trans rfl, (blk_cell BK223.out 2).trans rfl, (blk_cell BK224.out 0).trans rfl, (blk_cell BK224.out 1).trans rfl, (blk_cell BK224.out 2).trans rfl⟩ (fun hHeld => ?_)
   clear hK K
   refine norm_ (a' := ?_) ?_ ?_
   rotate_left
   ·show Act.put _ (some 23) _ = _
    simp only [Act.put, List.setIfInBounds_toArray, List.set_cons_zero, List.set_cons_succ, i64_w, i32_w]
    rfl
   refine last_ (i := 4) (N := none) #[true, true, true, true, true, false] rfl rfl (by kernel_rfl) (by decide) (fun K hK => ?_)
   have hs15 : w14.cell? ⟨gb223, 0, none⟩ = some (.int .i64 a1_0) := (blk_cell BK223.out 0).trans rfl
   have hfs15 := blk_frozen BK223.out 0
   have hns15_1 := NB224_223.out
   have hns15_2 := NB225_223.out
   have hms15_1 := NB223_224.out
   have hms15_2 := NB223_225.out
   have hs16 : w14.cell? ⟨gb223, 1, none⟩ = some (.int .i64 a1_1) := (blk_cell BK223.out 1).trans rfl
   have hfs16 := blk_frozen BK223.out 1
   have hns16_1 := NB224_223.out
   have hns16_2 := NB225_223.out
   have hms16_1 := NB223_224.out
   have hms16_2 := NB223_225.out
   have hs17 : w14.cell? ⟨gb223, 2, none⟩ = some (.string a1_2) := (blk_cell BK223.out 2).trans rfl
   have hfs17 := blk_frozen BK223.out 2
   have hns17_1 := NB224_223.out
   have hns17_2 := NB225_223.out
   have hms17_1 := NB223_224.out
   have hms17_2 := NB223_225.out
   refine skip_ (w1 := ?_) (by rfl) rfl ?_ ?_
   rotate_left
   ·go_simp
    rfl
   refine hK.out _ _ ?_
   clear hK K
   refine last_ (i := 5) (N := none) #[true, true, true, true, true, true] rfl rfl (by kernel_rfl) (by decide) (fun K hK => ?_)
   have hs18 : w14.cell? ⟨gb224, 0, none⟩ = some (.int .i64 a2_0) := (blk_cell BK224.out 0).trans rfl
   have hfs18 := blk_frozen BK224.out 0
   have hns18_0 := NB223_224.out
   have hns18_2 := NB225_224.out
   have hms18_0 := NB224_223.out
   have hms18_2 := NB224_225.out
   have hs19 : w14.cell? ⟨gb224, 1, none⟩ = some (.int .i64 a2_1) := (blk_cell BK224.out 1).trans rfl
   have hfs19 := blk_frozen BK224.out 1
   have hns19_0 := NB223_224.out
   have hns19_2 := NB225_224.out
   have hms19_0 := NB224_223.out
   have hms19_2 := NB224_225.out
   have hs20 : w14.cell? ⟨gb224, 2, none⟩ = some (.string a2_2) := (blk_cell BK224.out 2).trans rfl
   have hfs20 := blk_frozen BK224.out 2
   have hns20_0 := NB223_224.out
   have hns20_2 := NB225_224.out
   have hms20_0 := NB224_223.out
   have hms20_2 := NB224_225.out
   refine skip_ (w1 := ?_) (by rfl) rfl ?_ ?_
   rotate_left
   ·go_simp
    rfl
   refine hK.out _ _ ?_
   clear hK K
   refine done_ (by kernel_rfl) ?_
   have hnb21 := NB223_224.out
   have hnc21 := NB224_223.out
   have hnb22 := NB223_225.out
   have hnc22 := NB225_223.out
   have hcz23_0 : w14.cell? ⟨gb223, 0, none⟩ = some (.int .i64 a1_0) := (blk_cell BK223.out 0).trans rfl
   have hcz23_1 : w14.cell? ⟨gb223, 1, none⟩ = some (.int .i64 a1_1) := (blk_cell BK223.out 1).trans rfl
   have hcz23_2 : w14.cell? ⟨gb223, 2, none⟩ = some (.string a1_2) := (blk_cell BK223.out 2).trans rfl
   have hfz23_0 := blk_frozen BK223.out 0
   have hfz23_1 := blk_frozen BK223.out 1
   have hfz23_2 := blk_frozen BK223.out 2
   try go_wp2_with (first | ((with_reducible refine gate_callee (f := 64) rfl ?_); refine goesL_ (some 26) rfl rfl Tryz.func64 (by kernel_rfl) rfl #[.agg #[.int .i64 t226, .int .i64 t227, .string t228]] rfl (by (try simp only [List.map_toArray, List.map_cons, List.map_nil]); first | done | rfl | (simp only [List.length_drop, List.length_take]; rfl)) ?_; (with_reducible refine (value_IsBad.calls t226 t227 t228 true _ A7.out).mono ?_); rintro e w24 ⟨rfl, hb⟩; refine ⟨_, rfl, ?_⟩; replace BK223 := mk0 (blk_below (g := gb223) (o := .cells #[.int .i64 t226, .int .i64 t227, .string t228] 34 (0, 0)) (by (with_reducible repeat (first | refine bN ?_ | refine bD ?_ | refine bA ?_)); refine blk_far ?_ NB223_224.out _; (with_reducible repeat (first | refine bN ?_ | refine bD ?_ | refine bA ?_)); refine blk_far ?_ NB223_224.out _; (with_reducible repeat (first | refine bN ?_ | refine bD ?_ | refine bA ?_)); refine blk_far ?_ NB223_224.out _; (with_reducible repeat (first | refine bN ?_ | refine bD ?_ | refine bA ?_)); refine blk_put (cs := #[.int .i64 t226, .int .i64 t227, .string a1_2]) ?_ 2 _ rfl; (with_reducible repeat (first | refine bN ?_ | refine bD ?_ | refine bA ?_)); refine blk_put (cs := #[.int .i64 t226, .int .i64 a1_1, .string a1_2]) ?_ 1 _ rfl; (with_reducible repeat (first | refine bN ?_ | refine bD ?_ | refine bA ?_)); refine blk_put (cs := #[.int .i64 a1_0, .int .i64 a1_1, .string a1_2]) ?_ 0 _ rfl; (with_reducible repeat (first | refine bN ?_ | refine bD ?_ | refine bA ?_)); exact BK223.out) hb); replace BK224 := mk0 (blk_below (g := gb224) (o := .cells #[.int .i64 t229, .int .i64 t230, .string t231] 34 (0, 0)) (by (with_reducible repeat (first | refine bN ?_ | refine bD ?_ | refine bA ?_)); refine blk_put (cs := #[.int .i64 t229, .int .i64 t230, .string a2_2]) ?_ 2 _ rfl; (with_reducible repeat (first | refine bN ?_ | refine bD ?_ | refine bA ?_)); refine blk_put (cs := #[.int .i64 t229, .int .i64 a2_1, .string a2_2]) ?_ 1 _ rfl; (with_reducible repeat (first | refine bN ?_ | refine bD ?_ | refine bA ?_)); refine blk_put (cs := #[.int .i64 a2_0, .int .i64 a2_1, .string a2_2]) ?_ 0 _ rfl; (with_reducible repeat (first | refine bN ?_ | refine bD ?_ | refine bA ?_)); refine blk_far ?_ NB224_223.out _; (with_reducible repeat (first | refine bN ?_ | refine bD ?_ | refine bA ?_)); refine blk_far ?_ NB224_223.out _; (with_reducible repeat (first | refine bN ?_ | refine bD ?_ | refine bA ?_)); refine blk_far ?_ NB224_223.out _; (with_reducible repeat (first | refine bN ?_ | refine bD ?_ | refine bA ?_)); exact BK224.out) hb); replace BK225 := mk0 (blk_below (g := gb225) (o := .cells #[.int .i64 0, .int .i64 0, .string (⟨#[]⟩ : ByteArray)] 34 (0, 0)) (by (with_reducible repeat (first | refine bN ?_ | refine bD ?_ | refine bA ?_)); refine blk_far ?_ NB225_224.out _; (with_reducible repeat (first | refine bN ?_ | refine bD ?_ | refine bA ?_)); refine blk_far ?_ NB225_224.out _; (with_reducible repeat (first | refine bN ?_ | refine bD ?_ | refine bA ?_)); refine blk_far ?_ NB225_224.out _; (with_reducible repeat (first | refine bN ?_ | refine bD ?_ | refine bA ?_)); refine blk_far ?_ NB225_223.out _; (with_reducible repeat (first | refine bN ?_ | refine bD ?_ | refine bA ?_)); refine blk_far ?_ NB225_223.out _; (with_reducible repeat (first | refine bN ?_ | refine bD ?_ | refine bA ?_)); refine blk_far ?_ NB225_223.out _; (with_reducible repeat (first | refine bN ?_ | refine bD ?_ | refine bA ?_)); exact BK225.out) hb); replace HB := mk0 (below_step hbB hb); (try clear hb); (try clear hb2); (try clear hk); (try clear hi); have hcz25_0 : w24.cell? ⟨gb223, 0, none⟩ = some (.int .i64 t226) := (blk_cell BK223.out 0).trans rfl; have hcz25_1 : w24.cell? ⟨gb223, 1, none⟩ = some (.int .i64 t227) := (blk_cell BK223.out 1).trans rfl; have hcz25_2 : w24.cell? ⟨gb223, 2, none⟩ = some (.string t228) := (blk_cell BK223.out 2).trans rfl; have hfz25_0 := blk_frozen BK223.out 0; have hfz25_1 := blk_frozen BK223.out 1; have hfz25_2 := blk_frozen BK223.out 2; have hnb26 := NB225_224.out; have hnc26 := NB224_225.out; have hcz27_0 : w24.cell? ⟨gb225, 0, none⟩ = some (.int .i64 0) := (blk_cell BK225.out 0).trans rfl; have hcz27_1 : w24.cell? ⟨gb225, 1, none⟩ = some (.int .i64 0) := (blk_cell BK225.out 1).trans rfl; have hcz27_2 : w24.cell? ⟨gb225, 2, none⟩ = some (.string (⟨#[]⟩ : ByteArray)) := (blk_cell BK225.out 2).trans rfl; have hfz27_0 := blk_frozen BK225.out 0; have hfz27_1 := blk_frozen BK225.out 1; have hfz27_2 := blk_frozen BK225.out 2))
   refine bodyPost_ret (results_cell_row rfl _ _ gb225 34 #[.int .i64 t226, .int .i64 t227, .string t228] (0, 0) _ rfl (by (with_reducible repeat (first | refine bN ?_ | refine bD ?_ | refine bA ?_)); refine blk_put (cs := #[.int .i64 t226, .int .i64 t227, .string (⟨#[]⟩ : ByteArray)]) ?_ 2 _ rfl; (with_reducible repeat (first | refine bN ?_ | refine bD ?_ | refine bA ?_)); refine blk_put (cs := #[.int .i64 t226, .int .i64 0, .string (⟨#[]⟩ : ByteArray)]) ?_ 1 _ rfl; (with_reducible repeat (first | refine bN ?_ | refine bD ?_ | refine bA ?_)); refine blk_put (cs := #[.int .i64 0, .int .i64 0, .string (⟨#[]⟩ : ByteArray)]) ?_ 0 _ rfl; (with_reducible repeat (first | refine bN ?_ | refine bD ?_ | refine bA ?_)); exact BK225.out) Tryz.underlying34 rfl (by kernel_rfl)) rfl ?_
   exact ⟨eoA, hbB⟩
  ·replace c8 := Bool.eq_false_iff.mpr c8
   subst c8
   have H1 : ((value_IsBad.f t229 t230 t231).bind fun t233 => (if t233 = true then (some (t229, t230, t231)) else ((value_reckon.f 8 t227 t230).bind fun bt234 => (some (bt234.1, bt234.2.1, bt234.2.2))))) = some (r1, r2, r3) := by rw [if_neg (show ¬ (false = true) by decide)] at H; exact H
   clear H
   have H := H1
   clear H1
   replace H := Option.bind_eq_some_iff.mp H
   obtain ⟨t233, A280, H⟩ := H
   replace H : (if t233 = true then (some (t229, t230, t231)) else ((value_reckon.f 8 t227 t230).bind fun bt234 => (some (bt234.1, bt234.2.1, bt234.2.2)))) = some (r1, r2, r3) := H
   have A28 := mk0 A280
   clear A280
   by_cases c29 : t233 = true
   ·subst c29
    have H1 : (some (t229, t230, t231)) = some (r1, r2, r3) := by rw [if_pos rfl] at H; exact H
    clear H
    have H := H1
    clear H1
    simp only [Option.some.injEq, Prod.mk.injEq] at H
    obtain ⟨rfl, rfl, rfl⟩ := H
    go_enter Tryz.func37, Tryz.ntmps37
    try go_wp2_with (first | ((with_reducible refine gate_dst (N := 4) rfl ?_); refine box_event ?hg (N := 4) ?hd (cs := #[.int .i64 a1_0, .int .i64 a1_1, .string a1_2]) (t := 34) ?hr ?_; (case hd => rfl); (case hg => rfl); (case hr => first | (go_simp; done) | (go_simp; rfl)); intro gb223 hg w30 hbox hb; have BK223 := mk0 hbox; have GW223 := mk0 (szA (w := w) hg); have GE223 := mk0 (szA (w := w) hg); replace HB := mk0 (below_step hbA hb); clear hb hbox hg) | ((with_reducible refine gate_dst (N := 5) rfl ?_); refine box_event ?hg (N := 5) ?hd (cs := #[.int .i64 a2_0, .int .i64 a2_1, .string a2_2]) (t := 34) ?hr ?_; (case hd => rfl); (case hg => rfl); (case hr => first | (go_simp; done) | (go_simp; rfl)); intro gb224 hg w31 hbox hb; have BK224 := mk0 hbox; have GW224 := mk0 (szB (w := w) hg); have GE224 := mk0 (szB (w := w) hg); have NB223_224 := mk0 (neA (g := gb223) hg); have NB224_223 := mk0 ((neA (g := gb223) hg).symm); replace BK223 := mk0 (bbA (g := gb223) hb); replace HB := mk0 (below_step hbB hb); clear hb hbox hg) | ((with_reducible refine gate_dst (N := 6) rfl ?_); refine box_event ?hg (N := 6) ?hd (cs := #[.int .i64 0, .int .i64 0, .string (⟨#[]⟩ : ByteArray)]) (t := 34) ?hr ?_; (case hd => rfl); (case hg => rfl); (case hr => first | (go_simp; done) | (go_simp; rfl)); intro gb225 hg w32 hbox hb; have BK225 := mk0 hbox; have GW225 := mk0 (szB (w := w) hg); have GE225 := mk0 (szB (w := w) hg); have NB223_225 := mk0 (neA (g := gb223) hg); have NB225_223 := mk0 ((neA (g := gb223) hg).symm); have NB224_225 := mk0 (neA (g := gb224) hg); have NB225_224 := mk0 ((neA (g := gb224) hg).symm); replace BK223 := mk0 (bbA (g := gb223) hb); replace BK224 := mk0 (bbA (g := gb224) hb); replace HB := mk0 (below_step hbB hb); clear hb hbox hg))
    replace BK223 := mk0 (blk_drew BK223.out)
    replace BK224 := mk0 (blk_drew BK224.out)
    replace BK225 := mk0 (blk_drew BK225.out)
    replace HB := mk0 (below_drew1 HB.out)
    refine start_ (n := 6) (S := fun w' => w'.cell? ⟨gb223, 0, none⟩ = some (.int .i64 a1_0) ∧ w'.cell? ⟨gb223, 1, none⟩ = some (.int .i64 a1_1) ∧ w'.cell? ⟨gb223, 2, none⟩ = some (.string a1_2) ∧ w'.cell? ⟨gb224, 0, none⟩ = some (.int .i64 a2_0) ∧ w'.cell? ⟨gb224, 1, none⟩ = some (.int .i64 a2_1) ∧ w'.cell? ⟨gb224, 2, none⟩ = some (.string a2_2)) (ds := [4, 5]) #[false, false, false, false, false, false] (by kernel_rfl) rfl rfl ⟨(blk_cell BK223.out 0).trans rfl, (blk_cell BK223.out 1).trans rfl, (blk_cell BK223.out 2).trans rfl, (blk_cell BK224.out 0).trans rfl, (blk_cell BK224.out 1).trans rfl, (blk_cell BK224.out 2).trans rfl⟩ (fun hHeld => ?_)
    generalize w32.drew = w33 at BK223 BK224 BK225 HB hHeld ⊢
    refine take_ (i := 0) (N := some 20) (v := ?_) (a' := ?_) #[true, false, false, false, false, false] rfl rfl (by kernel_rfl) (fun _ _ _ h => h) (Or.inl ⟨by rfl, ?_⟩) hHeld ?_ ?_
    rotate_left
    ·rintro w' ⟨s0, s1, s2, s3, s4, s5⟩
     go_simp
     with_reducible rfl
    rotate_left
    ·exact puA
    refine take_ (i := 2) (N := some 22) (v := ?_) (a' := ?_) #[true, false, true, false, false, false] rfl rfl (by kernel_rfl) (fun _ _ _ h => h) (Or.inl ⟨by rfl, ?_⟩) hHeld ?_ ?_
    rotate_left
    ·rintro w' ⟨s0, s1, s2, s3, s4, s5⟩
     go_simp
     with_reducible rfl
    rotate_left
    ·exact puA
    refine one_ (i := 1) (N := some 21) #[true, true, true, false, false, false] rfl rfl (by kernel_rfl) (by decide) (fun K hK => ?_)
    refine goes_ Tryz.func63 (by kernel_rfl) rfl #[.agg #[.int .i64 a1_0, .int .i64 a1_1, .string a1_2]] (by rfl) rfl rfl (by (try simp only [List.map_toArray, List.map_cons, List.map_nil]); first | done | rfl | (simp only [List.length_drop, List.length_take]; rfl)) ?_
    with_reducible refine (value_Number.calls k a1_0 a1_1 a1_2 t226 t227 t228 _ A5.out).mono ?_
    rintro e w34 ⟨rfl, hb⟩
    refine ⟨_, rfl, ?_⟩
    replace BK223 := mk0 (bbA (g := gb223) hb)
    replace BK224 := mk0 (bbA (g := gb224) hb)
    replace BK225 := mk0 (bbA (g := gb225) hb)
    replace HB := mk0 (below_step hbB hb)
    (try clear hb)
    (try clear hb2)
    (try clear hk)
    (try clear hi)
    refine hK.out _ _ ⟨(blk_cell BK223.out 0).trans rfl, (blk_cell BK223.out 1).trans rfl, (blk_cell BK223.out 2).trans rfl, (blk_cell BK224.out 0).trans rfl, (blk_cell BK224.out 1).trans rfl, (blk_cell BK224.out 2).trans rfl⟩ (fun hHeld => ?_)
    clear hK K
    refine norm_ (a' := ?_) ?_ ?_
    rotate_left
    ·show Act.put _ (some 21) _ = _
     simp only [Act.put, List.setIfInBounds_toArray, List.set_cons_zero, List.set_cons_succ, i64_w, i32_w]
     rfl
    refine one_ (i := 3) (N := some 23) #[true, true, true, true, false, false] rfl rfl (by kernel_rfl) (by decide) (fun K hK => ?_)
    refine goes_ Tryz.func63 (by kernel_rfl) rfl #[.agg #[.int .i64 a2_0, .int .i64 a2_1, .string a2_2]] (by rfl) rfl rfl (by (try simp only [List.map_toArray, List.map_cons, List.map_nil]); first | done | rfl | (simp only [List.length_drop, List.length_take]; rfl)) ?_
    with_reducible refine (value_Number.calls k a2_0 a2_1 a2_2 t229 t230 t231 _ A6.out).mono ?_
    rintro e w35 ⟨rfl, hb⟩
    refine ⟨_, rfl, ?_⟩
    replace BK223 := mk0 (bbA (g := gb223) hb)
    replace BK224 := mk0 (bbA (g := gb224) hb)
    replace BK225 := mk0 (bbA (g := gb225) hb)
    replace HB := mk0 (below_step hbB hb)
    (try clear hb)
    (try clear hb2)
    (try clear hk)
    (try clear hi)
    refine hK.out _ _ ⟨(blk_cell BK223.out 0).trans rfl, (blk_cell BK223.out 1).trans rfl, (blk_cell BK223.out 2).trans rfl, (blk_cell BK224.out 0).trans rfl, (blk_cell BK224.out 1).trans rfl, (blk_cell BK224.out 2).trans rfl⟩ (fun hHeld => ?_)
    clear hK K
    refine norm_ (a' := ?_) ?_ ?_
    rotate_left
    ·show Act.put _ (some 23) _ = _
     simp only [Act.put, List.setIfInBounds_toArray, List.set_cons_zero, List.set_cons_succ, i64_w, i32_w]
     rfl
    refine last_ (i := 4) (N := none) #[true, true, true, true, true, false] rfl rfl (by kernel_rfl) (by decide) (fun K hK => ?_)
    have hs36 : w35.cell? ⟨gb223, 0, none⟩ = some (.int .i64 a1_0) := (blk_cell BK223.out 0).trans rfl
    have hfs36 := blk_frozen BK223.out 0
    have hns36_1 := NB224_223.out
    have hns36_2 := NB225_223.out
    have hms36_1 := NB223_224.out
    have hms36_2 := NB223_225.out
    have hs37 : w35.cell? ⟨gb223, 1, none⟩ = some (.int .i64 a1_1) := (blk_cell BK223.out 1).trans rfl
    have hfs37 := blk_frozen BK223.out 1
    have hns37_1 := NB224_223.out
    have hns37_2 := NB225_223.out
    have hms37_1 := NB223_224.out
    have hms37_2 := NB223_225.out
    have hs38 : w35.cell? ⟨gb223, 2, none⟩ = some (.string a1_2) := (blk_cell BK223.out 2).trans rfl
    have hfs38 := blk_frozen BK223.out 2
    have hns38_1 := NB224_223.out
    have hns38_2 := NB225_223.out
    have hms38_1 := NB223_224.out
    have hms38_2 := NB223_225.out
    refine skip_ (w1 := ?_) (by rfl) rfl ?_ ?_
    rotate_left
    ·go_simp
     rfl
    refine hK.out _ _ ?_
    clear hK K
    refine last_ (i := 5) (N := none) #[true, true, true, true, true, true] rfl rfl (by kernel_rfl) (by decide) (fun K hK => ?_)
    have hs39 : w35.cell? ⟨gb224, 0, none⟩ = some (.int .i64 a2_0) := (blk_cell BK224.out 0).trans rfl
    have hfs39 := blk_frozen BK224.out 0
    have hns39_0 := NB223_224.out
    have hns39_2 := NB225_224.out
    have hms39_0 := NB224_223.out
    have hms39_2 := NB224_225.out
    have hs40 : w35.cell? ⟨gb224, 1, none⟩ = some (.int .i64 a2_1) := (blk_cell BK224.out 1).trans rfl
    have hfs40 := blk_frozen BK224.out 1
    have hns40_0 := NB223_224.out
    have hns40_2 := NB225_224.out
    have hms40_0 := NB224_223.out
    have hms40_2 := NB224_225.out
    have hs41 : w35.cell? ⟨gb224, 2, none⟩ = some (.string a2_2) := (blk_cell BK224.out 2).trans rfl
    have hfs41 := blk_frozen BK224.out 2
    have hns41_0 := NB223_224.out
    have hns41_2 := NB225_224.out
    have hms41_0 := NB224_223.out
    have hms41_2 := NB224_225.out
    refine skip_ (w1 := ?_) (by rfl) rfl ?_ ?_
    rotate_left
    ·go_simp
     rfl
    refine hK.out _ _ ?_
    clear hK K
    refine done_ (by kernel_rfl) ?_
    have hnb42 := NB223_224.out
    have hnc42 := NB224_223.out
    have hnb43 := NB223_225.out
    have hnc43 := NB225_223.out
    have hcz44_0 : w35.cell? ⟨gb223, 0, none⟩ = some (.int .i64 a1_0) := (blk_cell BK223.out 0).trans rfl
    have hcz44_1 : w35.cell? ⟨gb223, 1, none⟩ = some (.int .i64 a1_1) := (blk_cell BK223.out 1).trans rfl
    have hcz44_2 : w35.cell? ⟨gb223, 2, none⟩ = some (.string a1_2) := (blk_cell BK223.out 2).trans rfl
    have hfz44_0 := blk_frozen BK223.out 0
    have hfz44_1 := blk_frozen BK223.out 1
    have hfz44_2 := blk_frozen BK223.out 2
    try go_wp2_with (first | ((with_reducible refine gate_callee (f := 64) rfl ?_); refine goesL_ (some 26) rfl rfl Tryz.func64 (by kernel_rfl) rfl #[.agg #[.int .i64 t226, .int .i64 t227, .string t228]] rfl (by (try simp only [List.map_toArray, List.map_cons, List.map_nil]); first | done | rfl | (simp only [List.length_drop, List.length_take]; rfl)) ?_; (with_reducible refine (value_IsBad.calls t226 t227 t228 false _ A7.out).mono ?_); rintro e w45 ⟨rfl, hb⟩; refine ⟨_, rfl, ?_⟩; replace BK223 := mk0 (blk_below (g := gb223) (o := .cells #[.int .i64 t226, .int .i64 t227, .string t228] 34 (0, 0)) (by (with_reducible repeat (first | refine bN ?_ | refine bD ?_ | refine bA ?_)); refine blk_far ?_ NB223_224.out _; (with_reducible repeat (first | refine bN ?_ | refine bD ?_ | refine bA ?_)); refine blk_far ?_ NB223_224.out _; (with_reducible repeat (first | refine bN ?_ | refine bD ?_ | refine bA ?_)); refine blk_far ?_ NB223_224.out _; (with_reducible repeat (first | refine bN ?_ | refine bD ?_ | refine bA ?_)); refine blk_put (cs := #[.int .i64 t226, .int .i64 t227, .string a1_2]) ?_ 2 _ rfl; (with_reducible repeat (first | refine bN ?_ | refine bD ?_ | refine bA ?_)); refine blk_put (cs := #[.int .i64 t226, .int .i64 a1_1, .string a1_2]) ?_ 1 _ rfl; (with_reducible repeat (first | refine bN ?_ | refine bD ?_ | refine bA ?_)); refine blk_put (cs := #[.int .i64 a1_0, .int .i64 a1_1, .string a1_2]) ?_ 0 _ rfl; (with_reducible repeat (first | refine bN ?_ | refine bD ?_ | refine bA ?_)); exact BK223.out) hb); replace BK224 := mk0 (blk_below (g := gb224) (o := .cells #[.int .i64 t229, .int .i64 t230, .string t231] 34 (0, 0)) (by (with_reducible repeat (first | refine bN ?_ | refine bD ?_ | refine bA ?_)); refine blk_put (cs := #[.int .i64 t229, .int .i64 t230, .string a2_2]) ?_ 2 _ rfl; (with_reducible repeat (first | refine bN ?_ | refine bD ?_ | refine bA ?_)); refine blk_put (cs := #[.int .i64 t229, .int .i64 a2_1, .string a2_2]) ?_ 1 _ rfl; (with_reducible repeat (first | refine bN ?_ | refine bD ?_ | refine bA ?_)); refine blk_put (cs := #[.int .i64 a2_0, .int .i64 a2_1, .string a2_2]) ?_ 0 _ rfl; (with_reducible repeat (first | refine bN ?_ | refine bD ?_ | refine bA ?_)); refine blk_far ?_ NB224_223.out _; (with_reducible repeat (first | refine bN ?_ | refine bD ?_ | refine bA ?_)); refine blk_far ?_ NB224_223.out _; (with_reducible repeat (first | refine bN ?_ | refine bD ?_ | refine bA ?_)); refine blk_far ?_ NB224_223.out _; (with_reducible repeat (first | refine bN ?_ | refine bD ?_ | refine bA ?_)); exact BK224.out) hb); replace BK225 := mk0 (blk_below (g := gb225) (o := .cells #[.int .i64 0, .int .i64 0, .string (⟨#[]⟩ : ByteArray)] 34 (0, 0)) (by (with_reducible repeat (first | refine bN ?_ | refine bD ?_ | refine bA ?_)); refine blk_far ?_ NB225_224.out _; (with_reducible repeat (first | refine bN ?_ | refine bD ?_ | refine bA ?_)); refine blk_far ?_ NB225_224.out _; (with_reducible repeat (first | refine bN ?_ | refine bD ?_ | refine bA ?_)); refine blk_far ?_ NB225_224.out _; (with_reducible repeat (first | refine bN ?_ | refine bD ?_ | refine bA ?_)); refine blk_far ?_ NB225_223.out _; (with_reducible repeat (first | refine bN ?_ | refine bD ?_ | refine bA ?_)); refine blk_far ?_ NB225_223.out _; (with_reducible repeat (first | refine bN ?_ | refine bD ?_ | refine bA ?_)); refine blk_far ?_ NB225_223.out _; (with_reducible repeat (first | refine bN ?_ | refine bD ?_ | refine bA ?_)); exact BK225.out) hb); replace HB := mk0 (below_step hbB hb); (try clear hb); (try clear hb2); (try clear hk); (try clear hi); have hnb46 := NB224_225.out; have hnc46 := NB225_224.out; have hcz47_0 : w45.cell? ⟨gb224, 0, none⟩ = some (.int .i64 t229) := (blk_cell BK224.out 0).trans rfl; have hcz47_1 : w45.cell? ⟨gb224, 1, none⟩ = some (.int .i64 t230) := (blk_cell BK224.out 1).trans rfl; have hcz47_2 : w45.cell? ⟨gb224, 2, none⟩ = some (.string t231) := (blk_cell BK224.out 2).trans rfl; have hfz47_0 := blk_frozen BK224.out 0; have hfz47_1 := blk_frozen BK224.out 1; have hfz47_2 := blk_frozen BK224.out 2) | ((with_reducible refine gate_callee (f := 64) rfl ?_); refine goesL_ (some 30) rfl rfl Tryz.func64 (by kernel_rfl) rfl #[.agg #[.int .i64 t229, .int .i64 t230, .string t231]] rfl (by (try simp only [List.map_toArray, List.map_cons, List.map_nil]); first | done | rfl | (simp only [List.length_drop, List.length_take]; rfl)) ?_; (with_reducible refine (value_IsBad.calls t229 t230 t231 true _ A28.out).mono ?_); rintro e w48 ⟨rfl, hb⟩; refine ⟨_, rfl, ?_⟩; replace BK223 := mk0 (bbA (g := gb223) hb); replace BK224 := mk0 (bbA (g := gb224) hb); replace BK225 := mk0 (bbA (g := gb225) hb); replace HB := mk0 (below_step hbB hb); (try clear hb); (try clear hb2); (try clear hk); (try clear hi); have hcz49_0 : w48.cell? ⟨gb224, 0, none⟩ = some (.int .i64 t229) := (blk_cell BK224.out 0).trans rfl; have hcz49_1 : w48.cell? ⟨gb224, 1, none⟩ = some (.int .i64 t230) := (blk_cell BK224.out 1).trans rfl; have hcz49_2 : w48.cell? ⟨gb224, 2, none⟩ = some (.string t231) := (blk_cell BK224.out 2).trans rfl; have hfz49_0 := blk_frozen BK224.out 0; have hfz49_1 := blk_frozen BK224.out 1; have hfz49_2 := blk_frozen BK224.out 2; have hcz50_0 : w48.cell? ⟨gb225, 0, none⟩ = some (.int .i64 0) := (blk_cell BK225.out 0).trans rfl; have hcz50_1 : w48.cell? ⟨gb225, 1, none⟩ = some (.int .i64 0) := (blk_cell BK225.out 1).trans rfl; have hcz50_2 : w48.cell? ⟨gb225, 2, none⟩ = some (.string (⟨#[]⟩ : ByteArray)) := (blk_cell BK225.out 2).trans rfl; have hfz50_0 := blk_frozen BK225.out 0; have hfz50_1 := blk_frozen BK225.out 1; have hfz50_2 := blk_frozen BK225.out 2))
    refine bodyPost_ret (results_cell_row rfl _ _ gb225 34 #[.int .i64 t229, .int .i64 t230, .string t231] (0, 0) _ rfl (by (with_reducible repeat (first | refine bN ?_ | refine bD ?_ | refine bA ?_)); refine blk_put (cs := #[.int .i64 t229, .int .i64 t230, .string (⟨#[]⟩ : ByteArray)]) ?_ 2 _ rfl; (with_reducible repeat (first | refine bN ?_ | refine bD ?_ | refine bA ?_)); refine blk_put (cs := #[.int .i64 t229, .int .i64 0, .string (⟨#[]⟩ : ByteArray)]) ?_ 1 _ rfl; (with_reducible repeat (first | refine bN ?_ | refine bD ?_ | refine bA ?_)); refine blk_put (cs := #[.int .i64 0, .int .i64 0, .string (⟨#[]⟩ : ByteArray)]) ?_ 0 _ rfl; (with_reducible repeat (first | refine bN ?_ | refine bD ?_ | refine bA ?_)); exact BK225.out) Tryz.underlying34 rfl (by kernel_rfl)) rfl ?_
    exact ⟨eoA, hbB⟩
   ·replace c29 := Bool.eq_false_iff.mpr c29
    subst c29
    have H1 : ((value_reckon.f 8 t227 t230).bind fun bt234 => (some (bt234.1, bt234.2.1, bt234.2.2))) = some (r1, r2, r3) := by rw [if_neg (show ¬ (false = true) by decide)] at H; exact H
    clear H
    have H := H1
    clear H1
    replace H := Option.bind_eq_some_iff.mp H
    obtain ⟨⟨t234, t235, t236⟩, A510, H⟩ := H
    replace H : (some (t234, t235, t236)) = some (r1, r2, r3) := H
    have A51 := mk0 A510
    clear A510
    simp only [Option.some.injEq, Prod.mk.injEq] at H
    obtain ⟨rfl, rfl, rfl⟩ := H
    go_enter Tryz.func37, Tryz.ntmps37
    try go_wp2_with (first | ((with_reducible refine gate_dst (N := 4) rfl ?_); refine box_event ?hg (N := 4) ?hd (cs := #[.int .i64 a1_0, .int .i64 a1_1, .string a1_2]) (t := 34) ?hr ?_; (case hd => rfl); (case hg => rfl); (case hr => first | (go_simp; done) | (go_simp; rfl)); intro gb223 hg w52 hbox hb; have BK223 := mk0 hbox; have GW223 := mk0 (szA (w := w) hg); have GE223 := mk0 (szA (w := w) hg); replace HB := mk0 (below_step hbA hb); clear hb hbox hg) | ((with_reducible refine gate_dst (N := 5) rfl ?_); refine box_event ?hg (N := 5) ?hd (cs := #[.int .i64 a2_0, .int .i64 a2_1, .string a2_2]) (t := 34) ?hr ?_; (case hd => rfl); (case hg => rfl); (case hr => first | (go_simp; done) | (go_simp; rfl)); intro gb224 hg w53 hbox hb; have BK224 := mk0 hbox; have GW224 := mk0 (szB (w := w) hg); have GE224 := mk0 (szB (w := w) hg); have NB223_224 := mk0 (neA (g := gb223) hg); have NB224_223 := mk0 ((neA (g := gb223) hg).symm); replace BK223 := mk0 (bbA (g := gb223) hb); replace HB := mk0 (below_step hbB hb); clear hb hbox hg) | ((with_reducible refine gate_dst (N := 6) rfl ?_); refine box_event ?hg (N := 6) ?hd (cs := #[.int .i64 0, .int .i64 0, .string (⟨#[]⟩ : ByteArray)]) (t := 34) ?hr ?_; (case hd => rfl); (case hg => rfl); (case hr => first | (go_simp; done) | (go_simp; rfl)); intro gb225 hg w54 hbox hb; have BK225 := mk0 hbox; have GW225 := mk0 (szB (w := w) hg); have GE225 := mk0 (szB (w := w) hg); have NB223_225 := mk0 (neA (g := gb223) hg); have NB225_223 := mk0 ((neA (g := gb223) hg).symm); have NB224_225 := mk0 (neA (g := gb224) hg); have NB225_224 := mk0 ((neA (g := gb224) hg).symm); replace BK223 := mk0 (bbA (g := gb223) hb); replace BK224 := mk0 (bbA (g := gb224) hb); replace HB := mk0 (below_step hbB hb); clear hb hbox hg))
    replace BK223 := mk0 (blk_drew BK223.out)
    replace BK224 := mk0 (blk_drew BK224.out)
    replace BK225 := mk0 (blk_drew BK225.out)
    replace HB := mk0 (below_drew1 HB.out)
    refine start_ (n := 6) (S := fun w' => w'.cell? ⟨gb223, 0, none⟩ = some (.int .i64 a1_0) ∧ w'.cell? ⟨gb223, 1, none⟩ = some (.int .i64 a1_1) ∧ w'.cell? ⟨gb223, 2, none⟩ = some (.string a1_2) ∧ w'.cell? ⟨gb224, 0, none⟩ = some (.int .i64 a2_0) ∧ w'.cell? ⟨gb224, 1, none⟩ = some (.int .i64 a2_1) ∧ w'.cell? ⟨gb224, 2, none⟩ = some (.string a2_2)) (ds := [4, 5]) #[false, false, false, false, false, false] (by kernel_rfl) rfl rfl ⟨(blk_cell BK223.out 0).trans rfl, (blk_cell BK223.out 1).trans rfl, (blk_cell BK223.out 2).trans rfl, (blk_cell BK224.out 0).trans rfl, (blk_cell BK224.out 1).trans rfl, (blk_cell BK224.out 2).trans rfl⟩ (fun hHeld => ?_)
    generalize w54.drew = w55 at BK223 BK224 BK225 HB hHeld ⊢
    refine take_ (i := 0) (N := some 20) (v := ?_) (a' := ?_) #[true, false, false, false, false, false] rfl rfl (by kernel_rfl) (fun _ _ _ h => h) (Or.inl ⟨by rfl, ?_⟩) hHeld ?_ ?_
    rotate_left
    ·rintro w' ⟨s0, s1, s2, s3, s4, s5⟩
     go_simp
     with_reducible rfl
    rotate_left
    ·exact puA
    refine take_ (i := 2) (N := some 22) (v := ?_) (a' := ?_) #[true, false, true, false, false, false] rfl rfl (by kernel_rfl) (fun _ _ _ h => h) (Or.inl ⟨by rfl, ?_⟩) hHeld ?_ ?_
    rotate_left
    ·rintro w' ⟨s0, s1, s2, s3, s4, s5⟩
     go_simp
     with_reducible rfl
    rotate_left
    ·exact puA
    refine one_ (i := 1) (N := some 21) #[true, true, true, false, false, false] rfl rfl (by kernel_rfl) (by decide) (fun K hK => ?_)
    refine goes_ Tryz.func63 (by kernel_rfl) rfl #[.agg #[.int .i64 a1_0, .int .i64 a1_1, .string a1_2]] (by rfl) rfl rfl (by (try simp only [List.map_toArray, List.map_cons, List.map_nil]); first | done | rfl | (simp only [List.length_drop, List.length_take]; rfl)) ?_
    with_reducible refine (value_Number.calls k a1_0 a1_1 a1_2 t226 t227 t228 _ A5.out).mono ?_
    rintro e w56 ⟨rfl, hb⟩
    refine ⟨_, rfl, ?_⟩
    replace BK223 := mk0 (bbA (g := gb223) hb)
    replace BK224 := mk0 (bbA (g := gb224) hb)
    replace BK225 := mk0 (bbA (g := gb225) hb)
    replace HB := mk0 (below_step hbB hb)
    (try clear hb)
    (try clear hb2)
    (try clear hk)
    (try clear hi)
    refine hK.out _ _ ⟨(blk_cell BK223.out 0).trans rfl, (blk_cell BK223.out 1).trans rfl, (blk_cell BK223.out 2).trans rfl, (blk_cell BK224.out 0).trans rfl, (blk_cell BK224.out 1).trans rfl, (blk_cell BK224.out 2).trans rfl⟩ (fun hHeld => ?_)
    clear hK K
    refine norm_ (a' := ?_) ?_ ?_
    rotate_left
    ·show Act.put _ (some 21) _ = _
     simp only [Act.put, List.setIfInBounds_toArray, List.set_cons_zero, List.set_cons_succ, i64_w, i32_w]
     rfl
    refine one_ (i := 3) (N := some 23) #[true, true, true, true, false, false] rfl rfl (by kernel_rfl) (by decide) (fun K hK => ?_)
    refine goes_ Tryz.func63 (by kernel_rfl) rfl #[.agg #[.int .i64 a2_0, .int .i64 a2_1, .string a2_2]] (by rfl) rfl rfl (by (try simp only [List.map_toArray, List.map_cons, List.map_nil]); first | done | rfl | (simp only [List.length_drop, List.length_take]; rfl)) ?_
    with_reducible refine (value_Number.calls k a2_0 a2_1 a2_2 t229 t230 t231 _ A6.out).mono ?_
    rintro e w57 ⟨rfl, hb⟩
    refine ⟨_, rfl, ?_⟩
    replace BK223 := mk0 (bbA (g := gb223) hb)
    replace BK224 := mk0 (bbA (g := gb224) hb)
    replace BK225 := mk0 (bbA (g := gb225) hb)
    replace HB := mk0 (below_step hbB hb)
    (try clear hb)
    (try clear hb2)
    (try clear hk)
    (try clear hi)
    refine hK.out _ _ ⟨(blk_cell BK223.out 0).trans rfl, (blk_cell BK223.out 1).trans rfl, (blk_cell BK223.out 2).trans rfl, (blk_cell BK224.out 0).trans rfl, (blk_cell BK224.out 1).trans rfl, (blk_cell BK224.out 2).trans rfl⟩ (fun hHeld => ?_)
    clear hK K
    refine norm_ (a' := ?_) ?_ ?_
    rotate_left
    ·show Act.put _ (some 23) _ = _
     simp only [Act.put, List.setIfInBounds_toArray, List.set_cons_zero, List.set_cons_succ, i64_w, i32_w]
     rfl
    refine last_ (i := 4) (N := none) #[true, true, true, true, true, false] rfl rfl (by kernel_rfl) (by decide) (fun K hK => ?_)
    have hs58 : w57.cell? ⟨gb223, 0, none⟩ = some (.int .i64 a1_0) := (blk_cell BK223.out 0).trans rfl
    have hfs58 := blk_frozen BK223.out 0
    have hns58_1 := NB224_223.out
    have hns58_2 := NB225_223.out
    have hms58_1 := NB223_224.out
    have hms58_2 := NB223_225.out
    have hs59 : w57.cell? ⟨gb223, 1, none⟩ = some (.int .i64 a1_1) := (blk_cell BK223.out 1).trans rfl
    have hfs59 := blk_frozen BK223.out 1
    have hns59_1 := NB224_223.out
    have hns59_2 := NB225_223.out
    have hms59_1 := NB223_224.out
    have hms59_2 := NB223_225.out
    have hs60 : w57.cell? ⟨gb223, 2, none⟩ = some (.string a1_2) := (blk_cell BK223.out 2).trans rfl
    have hfs60 := blk_frozen BK223.out 2
    have hns60_1 := NB224_223.out
    have hns60_2 := NB225_223.out
    have hms60_1 := NB223_224.out
    have hms60_2 := NB223_225.out
    refine skip_ (w1 := ?_) (by rfl) rfl ?_ ?_
    rotate_left
    ·go_simp
     rfl
    refine hK.out _ _ ?_
    clear hK K
    refine last_ (i := 5) (N := none) #[true, true, true, true, true, true] rfl rfl (by kernel_rfl) (by decide) (fun K hK => ?_)
    have hs61 : w57.cell? ⟨gb224, 0, none⟩ = some (.int .i64 a2_0) := (blk_cell BK224.out 0).trans rfl
    have hfs61 := blk_frozen BK224.out 0
    have hns61_0 := NB223_224.out
    have hns61_2 := NB225_224.out
    have hms61_0 := NB224_223.out
    have hms61_2 := NB224_225.out
    have hs62 : w57.cell? ⟨gb224, 1, none⟩ = some (.int .i64 a2_1) := (blk_cell BK224.out 1).trans rfl
    have hfs62 := blk_frozen BK224.out 1
    have hns62_0 := NB223_224.out
    have hns62_2 := NB225_224.out
    have hms62_0 := NB224_223.out
    have hms62_2 := NB224_225.out
    have hs63 : w57.cell? ⟨gb224, 2, none⟩ = some (.string a2_2) := (blk_cell BK224.out 2).trans rfl
    have hfs63 := blk_frozen BK224.out 2
    have hns63_0 := NB223_224.out
    have hns63_2 := NB225_224.out
    have hms63_0 := NB224_223.out
    have hms63_2 := NB224_225.out
    refine skip_ (w1 := ?_) (by rfl) rfl ?_ ?_
    rotate_left
    ·go_simp
     rfl
    refine hK.out _ _ ?_
    clear hK K
    refine done_ (by kernel_rfl) ?_
    have hnb64 := NB223_224.out
    have hnc64 := NB224_223.out
    have hnb65 := NB223_225.out
    have hnc65 := NB225_223.out
    have hcz66_0 : w57.cell? ⟨gb223, 0, none⟩ = some (.int .i64 a1_0) := (blk_cell BK223.out 0).trans rfl
    have hcz66_1 : w57.cell? ⟨gb223, 1, none⟩ = some (.int .i64 a1_1) := (blk_cell BK223.out 1).trans rfl
    have hcz66_2 : w57.cell? ⟨gb223, 2, none⟩ = some (.string a1_2) := (blk_cell BK223.out 2).trans rfl
    have hfz66_0 := blk_frozen BK223.out 0
    have hfz66_1 := blk_frozen BK223.out 1
    have hfz66_2 := blk_frozen BK223.out 2
    try go_wp2_with (first | ((with_reducible refine gate_callee (f := 64) rfl ?_); refine goesL_ (some 26) rfl rfl Tryz.func64 (by kernel_rfl) rfl #[.agg #[.int .i64 t226, .int .i64 t227, .string t228]] rfl (by (try simp only [List.map_toArray, List.map_cons, List.map_nil]); first | done | rfl | (simp only [List.length_drop, List.length_take]; rfl)) ?_; (with_reducible refine (value_IsBad.calls t226 t227 t228 false _ A7.out).mono ?_); rintro e w67 ⟨rfl, hb⟩; refine ⟨_, rfl, ?_⟩; replace BK223 := mk0 (blk_below (g := gb223) (o := .cells #[.int .i64 t226, .int .i64 t227, .string t228] 34 (0, 0)) (by (with_reducible repeat (first | refine bN ?_ | refine bD ?_ | refine bA ?_)); refine blk_far ?_ NB223_224.out _; (with_reducible repeat (first | refine bN ?_ | refine bD ?_ | refine bA ?_)); refine blk_far ?_ NB223_224.out _; (with_reducible repeat (first | refine bN ?_ | refine bD ?_ | refine bA ?_)); refine blk_far ?_ NB223_224.out _; (with_reducible repeat (first | refine bN ?_ | refine bD ?_ | refine bA ?_)); refine blk_put (cs := #[.int .i64 t226, .int .i64 t227, .string a1_2]) ?_ 2 _ rfl; (with_reducible repeat (first | refine bN ?_ | refine bD ?_ | refine bA ?_)); refine blk_put (cs := #[.int .i64 t226, .int .i64 a1_1, .string a1_2]) ?_ 1 _ rfl; (with_reducible repeat (first | refine bN ?_ | refine bD ?_ | refine bA ?_)); refine blk_put (cs := #[.int .i64 a1_0, .int .i64 a1_1, .string a1_2]) ?_ 0 _ rfl; (with_reducible repeat (first | refine bN ?_ | refine bD ?_ | refine bA ?_)); exact BK223.out) hb); replace BK224 := mk0 (blk_below (g := gb224) (o := .cells #[.int .i64 t229, .int .i64 t230, .string t231] 34 (0, 0)) (by (with_reducible repeat (first | refine bN ?_ | refine bD ?_ | refine bA ?_)); refine blk_put (cs := #[.int .i64 t229, .int .i64 t230, .string a2_2]) ?_ 2 _ rfl; (with_reducible repeat (first | refine bN ?_ | refine bD ?_ | refine bA ?_)); refine blk_put (cs := #[.int .i64 t229, .int .i64 a2_1, .string a2_2]) ?_ 1 _ rfl; (with_reducible repeat (first | refine bN ?_ | refine bD ?_ | refine bA ?_)); refine blk_put (cs := #[.int .i64 a2_0, .int .i64 a2_1, .string a2_2]) ?_ 0 _ rfl; (with_reducible repeat (first | refine bN ?_ | refine bD ?_ | refine bA ?_)); refine blk_far ?_ NB224_223.out _; (with_reducible repeat (first | refine bN ?_ | refine bD ?_ | refine bA ?_)); refine blk_far ?_ NB224_223.out _; (with_reducible repeat (first | refine bN ?_ | refine bD ?_ | refine bA ?_)); refine blk_far ?_ NB224_223.out _; (with_reducible repeat (first | refine bN ?_ | refine bD ?_ | refine bA ?_)); exact BK224.out) hb); replace BK225 := mk0 (blk_below (g := gb225) (o := .cells #[.int .i64 0, .int .i64 0, .string (⟨#[]⟩ : ByteArray)] 34 (0, 0)) (by (with_reducible repeat (first | refine bN ?_ | refine bD ?_ | refine bA ?_)); refine blk_far ?_ NB225_224.out _; (with_reducible repeat (first | refine bN ?_ | refine bD ?_ | refine bA ?_)); refine blk_far ?_ NB225_224.out _; (with_reducible repeat (first | refine bN ?_ | refine bD ?_ | refine bA ?_)); refine blk_far ?_ NB225_224.out _; (with_reducible repeat (first | refine bN ?_ | refine bD ?_ | refine bA ?_)); refine blk_far ?_ NB225_223.out _; (with_reducible repeat (first | refine bN ?_ | refine bD ?_ | refine bA ?_)); refine blk_far ?_ NB225_223.out _; (with_reducible repeat (first | refine bN ?_ | refine bD ?_ | refine bA ?_)); refine blk_far ?_ NB225_223.out _; (with_reducible repeat (first | refine bN ?_ | refine bD ?_ | refine bA ?_)); exact BK225.out) hb); replace HB := mk0 (below_step hbB hb); (try clear hb); (try clear hb2); (try clear hk); (try clear hi); have hnb68 := NB224_225.out; have hnc68 := NB225_224.out; have hcz69_0 : w67.cell? ⟨gb224, 0, none⟩ = some (.int .i64 t229) := (blk_cell BK224.out 0).trans rfl; have hcz69_1 : w67.cell? ⟨gb224, 1, none⟩ = some (.int .i64 t230) := (blk_cell BK224.out 1).trans rfl; have hcz69_2 : w67.cell? ⟨gb224, 2, none⟩ = some (.string t231) := (blk_cell BK224.out 2).trans rfl; have hfz69_0 := blk_frozen BK224.out 0; have hfz69_1 := blk_frozen BK224.out 1; have hfz69_2 := blk_frozen BK224.out 2) | ((with_reducible refine gate_callee (f := 64) rfl ?_); refine goesL_ (some 30) rfl rfl Tryz.func64 (by kernel_rfl) rfl #[.agg #[.int .i64 t229, .int .i64 t230, .string t231]] rfl (by (try simp only [List.map_toArray, List.map_cons, List.map_nil]); first | done | rfl | (simp only [List.length_drop, List.length_take]; rfl)) ?_; (with_reducible refine (value_IsBad.calls t229 t230 t231 false _ A28.out).mono ?_); rintro e w70 ⟨rfl, hb⟩; refine ⟨_, rfl, ?_⟩; replace BK223 := mk0 (bbA (g := gb223) hb); replace BK224 := mk0 (bbA (g := gb224) hb); replace BK225 := mk0 (bbA (g := gb225) hb); replace HB := mk0 (below_step hbB hb); (try clear hb); (try clear hb2); (try clear hk); (try clear hi); have hcz71_0 : w70.cell? ⟨gb223, 0, none⟩ = some (.int .i64 t226) := (blk_cell BK223.out 0).trans rfl; have hcz71_1 : w70.cell? ⟨gb223, 1, none⟩ = some (.int .i64 t227) := (blk_cell BK223.out 1).trans rfl; have hcz71_2 : w70.cell? ⟨gb223, 2, none⟩ = some (.string t228) := (blk_cell BK223.out 2).trans rfl; have hfz71_0 := blk_frozen BK223.out 0; have hfz71_1 := blk_frozen BK223.out 1; have hfz71_2 := blk_frozen BK223.out 2; have hcz72_0 : w70.cell? ⟨gb224, 0, none⟩ = some (.int .i64 t229) := (blk_cell BK224.out 0).trans rfl; have hcz72_1 : w70.cell? ⟨gb224, 1, none⟩ = some (.int .i64 t230) := (blk_cell BK224.out 1).trans rfl; have hcz72_2 : w70.cell? ⟨gb224, 2, none⟩ = some (.string t231) := (blk_cell BK224.out 2).trans rfl; have hfz72_0 := blk_frozen BK224.out 0; have hfz72_1 := blk_frozen BK224.out 1; have hfz72_2 := blk_frozen BK224.out 2) | ((with_reducible refine gate_callee (f := 65) rfl ?_); refine goesL_ (some 40) rfl rfl Tryz.func65 (by kernel_rfl) rfl #[.int .i64 8, .int .i64 t227, .int .i64 t230] rfl (by (try simp only [List.map_toArray, List.map_cons, List.map_nil]); first | done | rfl | (simp only [List.length_drop, List.length_take]; rfl)) ?_; (with_reducible refine (value_reckon.calls 8 t227 t230 t234 t235 t236 _ A51.out).mono ?_); rintro e w73 ⟨rfl, hb⟩; refine ⟨_, rfl, ?_⟩; replace BK223 := mk0 (bbA (g := gb223) hb); replace BK224 := mk0 (bbA (g := gb224) hb); replace BK225 := mk0 (bbA (g := gb225) hb); replace HB := mk0 (below_step hbB hb); (try clear hb); (try clear hb2); (try clear hk); (try clear hi); have hcz74_0 : w73.cell? ⟨gb225, 0, none⟩ = some (.int .i64 0) := (blk_cell BK225.out 0).trans rfl; have hcz74_1 : w73.cell? ⟨gb225, 1, none⟩ = some (.int .i64 0) := (blk_cell BK225.out 1).trans rfl; have hcz74_2 : w73.cell? ⟨gb225, 2, none⟩ = some (.string (⟨#[]⟩ : ByteArray)) := (blk_cell BK225.out 2).trans rfl; have hfz74_0 := blk_frozen BK225.out 0; have hfz74_1 := blk_frozen BK225.out 1; have hfz74_2 := blk_frozen BK225.out 2))
    refine bodyPost_ret (results_cell_row rfl _ _ gb225 34 #[.int .i64 t234, .int .i64 t235, .string t236] (0, 0) _ rfl (by (with_reducible repeat (first | refine bN ?_ | refine bD ?_ | refine bA ?_)); refine blk_put (cs := #[.int .i64 t234, .int .i64 t235, .string (⟨#[]⟩ : ByteArray)]) ?_ 2 _ rfl; (with_reducible repeat (first | refine bN ?_ | refine bD ?_ | refine bA ?_)); refine blk_put (cs := #[.int .i64 t234, .int .i64 0, .string (⟨#[]⟩ : ByteArray)]) ?_ 1 _ rfl; (with_reducible repeat (first | refine bN ?_ | refine bD ?_ | refine bA ?_)); refine blk_put (cs := #[.int .i64 0, .int .i64 0, .string (⟨#[]⟩ : ByteArray)]) ?_ 0 _ rfl; (with_reducible repeat (first | refine bN ?_ | refine bD ?_ | refine bA ?_)); exact BK225.out) Tryz.underlying34 rfl (by kernel_rfl)) rfl ?_
    exact ⟨eoA, hbB⟩
 ·rw [if_neg c4] at H
  exact absurd H (by simp)
/-! ### eval_Sum: function 25 -/
def eval_Sum.l0 : Nat → List Int → Int → Int → Int → Int → ByteArray → Option (Int × Int × ByteArray)
 | 0, _, _, _, _, _, _ => none
 | k + 1, x7, x8, x9, x242000, x242001, x242002 => if x9 < x8 then (if 0 ≤ x9 then (if x9 < (x7.length : Int) then ((value_Num.f (rd x7 x9)).bind fun bt243 => ((value_Two.f k 8 x242000 x242001 x242002 bt243.1 bt243.2.1 bt243.2.2).bind fun bt246 => (eval_Sum.l0 k x7 x8 (wrap64 (x9 + 1)) bt246.1 bt246.2.1 bt246.2.2))) else (none)) else (none)) else (some (x242000, x242001, x242002))
def eval_Sum.f (k : Nat) (l0 : List Int) : Option (Int × Int × ByteArray) := (value_Num.f 0).bind fun bt238 => (eval_Sum.l0 k l0 (l0.length : Int) 0 bt238.1 bt238.2.1 bt238.2.2)
set_option maxHeartbeats 8000000 in
set_option maxRecDepth 100000 in
theorem eval_Sum.calls (k : Nat) (A0 : Option Addr) (c0 : Nat) (l0 : List Int) (r1 : Int) (r2 : Int) (r3 : ByteArray) (w : World) (hr0 : Kd.C (Kd.int .i64) w A0 l0.length l0) (hc0 : l0.length ≤ c0) (h : eval_Sum.f k l0 = some (r1, r2, r3)) (hGL : GL w := by repeat (first | assumption | exact GL.of_below (by assumption) (by assumption) | exact GL.of_below (by assumption) (Aside0.out (by assumption)) | with_reducible apply GL.drewN | with_reducible apply GL.drew | with_reducible apply GL.alloc | with_reducible refine GL.set (by assumption) (by assumption) ?_ _ _)) :
  Calls Tryz.prog 25 #[.slice A0 l0.length c0] w fun e w' => e = .returned (.agg #[.int .i64 r1, .int .i64 r2, .string r3]) ∧ Below w.heap.size w w' := by
 have hu34 := Tryz.underlying34
 have HR0 := mk0 hr0
 have HC0 := mk0 hc0
 clear hr0 hc0
 have HB := mk0 (Below.refl w.heap.size w)
 have H : ((value_Num.f 0).bind fun bt238 => (eval_Sum.l0 k l0 (l0.length : Int) 0 bt238.1 bt238.2.1 bt238.2.2)) = some (r1, r2, r3) := h
 clear h
 replace H := Option.bind_eq_some_iff.mp H
 obtain ⟨⟨t238, t239, t240⟩, A20, H⟩ := H
 replace H : (eval_Sum.l0 k l0 (l0.length : Int) 0 t238 t239 t240) = some (r1, r2, r3) := H
 have A2 := mk0 A20
 clear A20
 have H' := mk0 H
 clear H
 go_enter Tryz.func25, Tryz.ntmps25
 go_wp2_with (first | ((with_reducible refine gate_dst (N := 2) rfl ?_); refine box_event ?hg (N := 2) ?hd (cs := #[.int .i64 0, .int .i64 0, .string (⟨#[]⟩ : ByteArray)]) (t := 34) ?hr ?_; (case hd => rfl); (case hg => rfl); (case hr => first | (go_simp; done) | (go_simp; rfl)); intro gb237 hg w3 hbox hb; have BK237 := mk0 hbox; have GW237 := mk0 (szA (w := w) hg); have GE237 := mk0 (szA (w := w) hg); replace HB := mk0 (below_step hbA hb); clear hb hbox hg) | ((with_reducible refine gate_callee (f := 36) rfl ?_); refine goesL_ (some 6) rfl rfl Tryz.func36 (by kernel_rfl) rfl #[.int .i64 0] rfl (by (try simp only [List.map_toArray, List.map_cons, List.map_nil]); first | done | rfl | (simp only [List.length_drop, List.length_take]; rfl)) ?_; (with_reducible refine (value_Num.calls 0 t238 t239 t240 _ A2.out).mono ?_); rintro e w4 ⟨rfl, hb⟩; refine ⟨_, rfl, ?_⟩; replace BK237 := mk0 (bbA (g := gb237) hb); replace HB := mk0 (below_step hbB hb); (try clear hb); (try clear hb2); (try clear hk); (try clear hi)) | ((with_reducible refine gate_dst (N := 3) rfl ?_); refine box_event ?hg (N := 3) ?hd (cs := #[.int .i64 0, .int .i64 0, .string (⟨#[]⟩ : ByteArray)]) (t := 34) ?hr ?_; (case hd => rfl); (case hg => rfl); (case hr => first | (go_simp; done) | (go_simp; rfl)); intro gb241 hg w5 hbox hb; have BK241 := mk0 hbox; have GW241 := mk0 (szB (w := w) hg); have GE241 := mk0 (szB (w := w) hg); have NB237_241 := mk0 (neA (g := gb237) hg); have NB241_237 := mk0 ((neA (g := gb237) hg).symm); replace BK237 := mk0 (bbA (g := gb237) hb); replace HB := mk0 (below_step hbB hb); clear hb hbox hg; have hnb6 := NB241_237.out; have hnc6 := NB237_241.out; have hcz7_0 : w5.cell? ⟨gb241, 0, none⟩ = some (.int .i64 0) := (blk_cell BK241.out 0).trans rfl; have hcz7_1 : w5.cell? ⟨gb241, 1, none⟩ = some (.int .i64 0) := (blk_cell BK241.out 1).trans rfl; have hcz7_2 : w5.cell? ⟨gb241, 2, none⟩ = some (.string (⟨#[]⟩ : ByteArray)) := (blk_cell BK241.out 2).trans rfl; have hfz7_0 := blk_frozen BK241.out 0; have hfz7_1 := blk_frozen BK241.out 1; have hfz7_2 := blk_frozen BK241.out 2))
 go_loopg [9] k (fun kq v9 w' => ∃ (x9_1 : Int) (x242000_1 : Int) (x242001_1 : Int) (x242002_1 : ByteArray), v9 = .int .i64 x9_1 ∧ Aside0 (eval_Sum.l0 kq l0 (l0.length : Int) x9_1 x242000_1 x242001_1 x242002_1 = some (r1, r2, r3)) ∧ Aside0 (kq ≤ k) ∧ Aside0 (w'.heap[gb237]? = some (.cells #[.int .i64 0, .int .i64 0, .string (⟨#[]⟩ : ByteArray)] 34 (0, 0))) ∧ Aside0 (w'.heap[gb241]? = some (.cells #[.int .i64 x242000_1, .int .i64 x242001_1, .string x242002_1] 34 (0, 0))) ∧ Aside0 (Below w.heap.size w w'))
 case atStart => exact ⟨(0), (t238), (t239), (t240), rfA, H', ⟨Nat.le_refl _⟩, ⟨by (with_reducible repeat (first | refine bN ?_ | refine bD ?_ | refine bA ?_)); refine blk_far ?_ NB237_241.out _; (with_reducible repeat (first | refine bN ?_ | refine bD ?_ | refine bA ?_)); refine blk_far ?_ NB237_241.out _; (with_reducible repeat (first | refine bN ?_ | refine bD ?_ | refine bA ?_)); refine blk_far ?_ NB237_241.out _; (with_reducible repeat (first | refine bN ?_ | refine bD ?_ | refine bA ?_)); exact BK237.out⟩, ⟨by (with_reducible repeat (first | refine bN ?_ | refine bD ?_ | refine bA ?_)); refine blk_put (cs := #[.int .i64 t238, .int .i64 t239, .string (⟨#[]⟩ : ByteArray)]) ?_ 2 _ rfl; (with_reducible repeat (first | refine bN ?_ | refine bD ?_ | refine bA ?_)); refine blk_put (cs := #[.int .i64 t238, .int .i64 0, .string (⟨#[]⟩ : ByteArray)]) ?_ 1 _ rfl; (with_reducible repeat (first | refine bN ?_ | refine bD ?_ | refine bA ?_)); refine blk_put (cs := #[.int .i64 0, .int .i64 0, .string (⟨#[]⟩ : ByteArray)]) ?_ 0 _ rfl; (with_reducible repeat (first | refine bN ?_ | refine bD ?_ | refine bA ?_)); exact BK241.out⟩, ⟨hbB⟩⟩
 case round =>
  clear H'
  try clear c2
  try clear p2
  try clear c3
  try clear c6
  try clear hcz7_0
  try clear hcz7_1
  try clear hcz7_2
  try clear hfz7_0
  try clear hfz7_1
  try clear hfz7_2
  obtain ⟨x9_1, x242000_1, x242001_1, x242002_1, rfl, HA, HK1, BK237, BK241, HB⟩ := hrel
  cases gk with
  | zero => exact absurd HA.out (by simp [eval_Sum.l0])
  | succ k1 =>
   have H := HA.out
   clear HA
   simp only [eval_Sum.l0] at H
   by_cases c8 : x9_1 < (l0.length : Int)
   ·rw [if_pos c8] at H
    have c8b0 : decide (x9_1 < (l0.length : Int)) = true := decide_eq_true c8
    clear c8
    by_cases c9 : 0 ≤ x9_1
    ·rw [if_pos c9] at H
     have c9b0 : decide (0 ≤ x9_1) = true := decide_eq_true c9
     clear c9
     by_cases c10 : x9_1 < (l0.length : Int)
     ·rw [if_pos c10] at H
      have c10b0 : decide (x9_1 < (l0.length : Int)) = true := decide_eq_true c10
      clear c10
      replace H := Option.bind_eq_some_iff.mp H
      obtain ⟨⟨t243, t244, t245⟩, A110, H⟩ := H
      replace H : ((value_Two.f k1 8 x242000_1 x242001_1 x242002_1 t243 t244 t245).bind fun bt246 => (eval_Sum.l0 k1 l0 (l0.length : Int) (wrap64 (x9_1 + 1)) bt246.1 bt246.2.1 bt246.2.2)) = some (r1, r2, r3) := H
      have A11 := mk0 A110
      clear A110
      replace H := Option.bind_eq_some_iff.mp H
      obtain ⟨⟨t246, t247, t248⟩, A120, H⟩ := H
      replace H : (eval_Sum.l0 k1 l0 (l0.length : Int) (wrap64 (x9_1 + 1)) t246 t247 t248) = some (r1, r2, r3) := H
      have A12 := mk0 A120
      clear A120
      have H' := mk0 H
      clear H
      have p242 : 0 ≤ (x9_1 : Int) := dcA
      have q242 : x9_1 < (l0.length : Int) := dcA
      obtain ⟨ad242, e242, hx242_0⟩ := Kd.at_int HR0.out x9_1 p242 q242
      cases e242
      replace hx242_0 := (HB.out.cell (World.block_lt_of_cell? w _ hx242_0)).trans hx242_0
      replace p242 := eq_true p242
      replace q242 := eq_true q242
      try go_wp2
      replace BK237 := mk0 (blk_drew BK237.out)
      replace BK241 := mk0 (blk_drew BK241.out)
      replace HB := mk0 (below_drew1 HB.out)
      refine start_ (n := 5) (S := fun w' => w'.cell? ⟨gb241, 0, none⟩ = some (.int .i64 x242000_1) ∧ w'.cell? ⟨gb241, 1, none⟩ = some (.int .i64 x242001_1) ∧ w'.cell? ⟨gb241, 2, none⟩ = some (.string x242002_1)) (ds := [4]) #[false, false, false, false, false] (by kernel_rfl) rfl rfl ⟨(blk_cell BK241.out 0).trans rfl, (blk_cell BK241.out 1).trans rfl, (blk_cell BK241.out 2).trans rfl⟩ (fun hHeld => ?_)
      generalize wr.drew = w13 at BK237 BK241 HB hHeld ⊢
      refine pure_ (i := 1) (N := some 14) (v := ?_) (a' := ?_) #[false, true, false, false, false] rfl rfl (by kernel_rfl) (fun _ _ _ h => h) (Or.inl ⟨by rfl, ?_⟩) ?_ ?_
      rotate_left
      ·exact goA
      rotate_left
      ·exact puA
      refine take_ (i := 0) (N := some 13) (v := ?_) (a' := ?_) #[true, true, false, false, false] rfl rfl (by kernel_rfl) (fun _ _ _ h => h) (Or.inl ⟨by rfl, ?_⟩) hHeld ?_ ?_
      rotate_left
      ·rintro w' ⟨s0, s1, s2⟩
       go_simp
       with_reducible rfl
      rotate_left
      ·exact puA
      refine one_ (i := 2) (N := some 15) #[true, true, true, false, false] rfl rfl (by kernel_rfl) (by decide) (fun K hK => ?_)
      refine goes_ Tryz.func36 (by kernel_rfl) rfl #[.int .i64 (rd l0 x9_1)] (by rfl) rfl rfl (by (try simp only [List.map_toArray, List.map_cons, List.map_nil]); first | done | rfl | (simp only [List.length_drop, List.length_take]; rfl)) ?_
      with_reducible refine (value_Num.calls (rd l0 x9_1) t243 t244 t245 _ A11.out).mono ?_
      rintro e w14 ⟨rfl, hb⟩
      refine ⟨_, rfl, ?_⟩
      replace BK237 := mk0 (bbA (g := gb237) hb)
      replace BK241 := mk0 (bbA (g := gb241) hb)
      replace HB := mk0 (below_step hbB hb)
      (try clear hb)
      (try clear hb2)
      (try clear hk)
      (try clear hi)
      refine hK.out _ _ ⟨(blk_cell BK241.out 0).trans rfl, (blk_cell BK241.out 1).trans rfl, (blk_cell BK241.out 2).trans rfl⟩ (fun hHeld => ?_)
      clear hK K
      refine norm_ (a' := ?_) ?_ ?_
      rotate_left
      ·show Act.put _ (some 15) _ = _
       simp only [Act.put, List.setIfInBounds_toArray, List.set_cons_zero, List.set_cons_succ, i64_w, i32_w]
       rfl
      refine one_ (i := 3) (N := some 16) #[true, true, true, true, false] rfl rfl (by kernel_rfl) (by decide) (fun K hK => ?_)
      refine goes_ Tryz.func37 (by kernel_rfl) rfl #[.int .i64 8, .agg #[.int .i64 x242000_1, .int .i64 x242001_1, .string x242002_1], .agg #[.int .i64 t243, .int .i64 t244, .string t245]] (by rfl) rfl rfl (by (try simp only [List.map_toArray, List.map_cons, List.map_nil]); first | done | rfl | (simp only [List.length_drop, List.length_take]; rfl)) ?_
      with_reducible refine (value_Two.calls k1 8 x242000_1 x242001_1 x242002_1 t243 t244 t245 t246 t247 t248 _ A12.out).mono ?_
      rintro e w15 ⟨rfl, hb⟩
      refine ⟨_, rfl, ?_⟩
      replace BK237 := mk0 (bbA (g := gb237) hb)
      replace BK241 := mk0 (bbA (g := gb241) hb)
      replace HB := mk0 (below_step hbB hb)
      (try clear hb)
      (try clear hb2)
      (try clear hk)
      (try clear hi)
      refine hK.out _ _ ⟨(blk_cell BK241.out 0).trans rfl, (blk_cell BK241.out 1).trans rfl, (blk_cell BK241.out 2).trans rfl⟩ (fun hHeld => ?_)
      clear hK K
      refine norm_ (a' := ?_) ?_ ?_
      rotate_left
      ·show Act.put _ (some 16) _ = _
       simp only [Act.put, List.setIfInBounds_toArray, List.set_cons_zero, List.set_cons_succ, i64_w, i32_w]
       rfl
      refine last_ (i := 4) (N := none) #[true, true, true, true, true] rfl rfl (by kernel_rfl) (by decide) (fun K hK => ?_)
      have hs16 : w15.cell? ⟨gb241, 0, none⟩ = some (.int .i64 x242000_1) := (blk_cell BK241.out 0).trans rfl
      have hfs16 := blk_frozen BK241.out 0
      have hns16_0 := NB237_241.out
      have hms16_0 := NB241_237.out
      have hs17 : w15.cell? ⟨gb241, 1, none⟩ = some (.int .i64 x242001_1) := (blk_cell BK241.out 1).trans rfl
      have hfs17 := blk_frozen BK241.out 1
      have hns17_0 := NB237_241.out
      have hms17_0 := NB241_237.out
      have hs18 : w15.cell? ⟨gb241, 2, none⟩ = some (.string x242002_1) := (blk_cell BK241.out 2).trans rfl
      have hfs18 := blk_frozen BK241.out 2
      have hns18_0 := NB237_241.out
      have hms18_0 := NB241_237.out
      refine skip_ (w1 := ?_) (by rfl) rfl ?_ ?_
      rotate_left
      ·go_simp
       rfl
      refine hK.out _ _ ?_
      clear hK K
      refine done_ (by kernel_rfl) ?_
      try go_wp2
      go_roundg k1
      case measure => have := HK1.out; omega
      case rel => exact ⟨(wrap64 (x9_1 + 1)), (t246), (t247), (t248), rfA, H', ⟨by have := HK1.out; omega⟩, ⟨by (with_reducible repeat (first | refine bN ?_ | refine bD ?_ | refine bA ?_)); refine blk_far ?_ NB237_241.out _; (with_reducible repeat (first | refine bN ?_ | refine bD ?_ | refine bA ?_)); refine blk_far ?_ NB237_241.out _; (with_reducible repeat (first | refine bN ?_ | refine bD ?_ | refine bA ?_)); refine blk_far ?_ NB237_241.out _; (with_reducible repeat (first | refine bN ?_ | refine bD ?_ | refine bA ?_)); exact BK237.out⟩, ⟨by (with_reducible repeat (first | refine bN ?_ | refine bD ?_ | refine bA ?_)); refine blk_put (cs := #[.int .i64 t246, .int .i64 t247, .string x242002_1]) ?_ 2 _ rfl; (with_reducible repeat (first | refine bN ?_ | refine bD ?_ | refine bA ?_)); refine blk_put (cs := #[.int .i64 t246, .int .i64 x242001_1, .string x242002_1]) ?_ 1 _ rfl; (with_reducible repeat (first | refine bN ?_ | refine bD ?_ | refine bA ?_)); refine blk_put (cs := #[.int .i64 x242000_1, .int .i64 x242001_1, .string x242002_1]) ?_ 0 _ rfl; (with_reducible repeat (first | refine bN ?_ | refine bD ?_ | refine bA ?_)); exact BK241.out⟩, ⟨hbB⟩⟩
     ·rw [if_neg c10] at H
      exact absurd H (by simp)
    ·rw [if_neg c9] at H
     exact absurd H (by simp)
   ·rw [if_neg c8] at H
    have c8b0 : decide (x9_1 < (l0.length : Int)) = false := decide_eq_false c8
    clear c8
    simp only [Option.some.injEq, Prod.mk.injEq] at H
    obtain ⟨rfl, rfl, rfl⟩ := H
    have hnb19 := NB241_237.out
    have hnc19 := NB237_241.out
    have hcz20_0 : wr.cell? ⟨gb241, 0, none⟩ = some (.int .i64 x242000_1) := (blk_cell BK241.out 0).trans rfl
    have hcz20_1 : wr.cell? ⟨gb241, 1, none⟩ = some (.int .i64 x242001_1) := (blk_cell BK241.out 1).trans rfl
    have hcz20_2 : wr.cell? ⟨gb241, 2, none⟩ = some (.string x242002_1) := (blk_cell BK241.out 2).trans rfl
    have hfz20_0 := blk_frozen BK241.out 0
    have hfz20_1 := blk_frozen BK241.out 1
    have hfz20_2 := blk_frozen BK241.out 2
    have hcz21_0 : wr.cell? ⟨gb237, 0, none⟩ = some (.int .i64 0) := (blk_cell BK237.out 0).trans rfl
    have hcz21_1 : wr.cell? ⟨gb237, 1, none⟩ = some (.int .i64 0) := (blk_cell BK237.out 1).trans rfl
    have hcz21_2 : wr.cell? ⟨gb237, 2, none⟩ = some (.string (⟨#[]⟩ : ByteArray)) := (blk_cell BK237.out 2).trans rfl
    have hfz21_0 := blk_frozen BK237.out 0
    have hfz21_1 := blk_frozen BK237.out 1
    have hfz21_2 := blk_frozen BK237.out 2
    go_wp2
    refine bodyPost_ret (results_cell_row rfl _ _ gb237 34 #[.int .i64 x242000_1, .int .i64 x242001_1, .string x242002_1] (0, 0) _ rfl (by (with_reducible repeat (first | refine bN ?_ | refine bD ?_ | refine bA ?_)); refine blk_put (cs := #[.int .i64 x242000_1, .int .i64 x242001_1, .string (⟨#[]⟩ : ByteArray)]) ?_ 2 _ rfl; (with_reducible repeat (first | refine bN ?_ | refine bD ?_ | refine bA ?_)); refine blk_put (cs := #[.int .i64 x242000_1, .int .i64 0, .string (⟨#[]⟩ : ByteArray)]) ?_ 1 _ rfl; (with_reducible repeat (first | refine bN ?_ | refine bD ?_ | refine bA ?_)); refine blk_put (cs := #[.int .i64 0, .int .i64 0, .string (⟨#[]⟩ : ByteArray)]) ?_ 0 _ rfl; (with_reducible repeat (first | refine bN ?_ | refine bD ?_ | refine bA ?_)); exact BK237.out) Tryz.underlying34 rfl (by kernel_rfl)) rfl ?_
    exact ⟨eoA, hbB⟩
end Go.Proofs.YtpinblladamdiaaGreatDoor.Pc
