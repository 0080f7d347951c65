/- pick.heads of the program: a column of values, sorted by the library and each once: what the code does, for every table. -/
import Derived.Test.YtpinblladamdiaaGreatDoorPcx1
import Derived.Test.YtpinblladamdiaaGreatDoorPcx8
import Derived.Test.YtpinblladamdiaaGreatDoorPcSort
import Derived.Sort.OwnSorted
import Derived.Lib.SliceRun
import Derived.Shelf.SlSortCmp.NoneTotal
namespace Go.Proofs.YtpinblladamdiaaGreatDoor.Pc
open Go.RowKit Go.Proofs.YtpinblladamdiaaGreatDoorW.PrintWords Go.Proofs.YtpinblladamdiaaGreatDoorW.PrintLast Go.Proofs.YtpinblladamdiaaGreatDoorW.PrintMore
attribute [local go_sem] max2_int min2_int max_two min_two max_three min_three max_four min_four
attribute [local go_sem] cat_eq ext_eq
attribute [local go_sem high] stringOp_gtr binOp_gtr
attribute [local go_sem high] eqA34
set_option linter.unusedVariables false
set_option linter.unusedSimpArgs false
/-! ### Rows of values, as the kit's sort lays them, and as the print's words hold them -/
open Go.Sort Go.Lib
instance : Inhabited S34 := ⟨z34⟩
def encS (x : S34) : List Value := [.int .i64 x.f0, .int .i64 x.f1, .string x.f2]
theorem encS_len (x : S34) : (encS x).length = 3 := rfl
theorem encS_one (x : S34) : ∀ v ∈ encS x, v.oneCell' = true := fun v hv => by
 simp [encS] at hv
 rcases hv with rfl | rfl | rfl <;> rfl
theorem flat_len : ∀ xs : List S34, (xs.flatMap encS).length = xs.length * 3
 | [] => rfl
 | x :: r => by rw [List.flatMap_cons, List.length_append, flat_len r, encS_len, List.length_cons]; omega
theorem flat_get : ∀ (xs : List S34) (t : Nat), (xs.flatMap encS)[t]? = (xs[t / 3]?).bind fun x => (encS x)[t % 3]?
 | [], t => by simp
 | x :: r, t => by
  rw [List.flatMap_cons]
  by_cases h : t < 3
  ·rw [List.getElem?_append_left (by rw [encS_len]; exact h), show t / 3 = 0 by omega, show t % 3 = t by omega]; rfl
  ·rw [List.getElem?_append_right (by rw [encS_len]; omega), encS_len, flat_get r (t - 3), show t / 3 = (t - 3) / 3 + 1 by omega, List.getElem?_cons_succ, show t % 3 = (t - 3) % 3 by omega]
theorem flatK_list (xs : List S34) : (flatK encS 3 xs.toArray).toList = xs.flatMap encS := by
 apply List.ext_getElem?
 intro t
 rw [flat_get]
 by_cases h : t < xs.length * 3
 ·have h3 : t / 3 < xs.length := by omega
  have e1 : (encS xs[t / 3]).length = 3 := rfl
  simp [flatK, h, h3, List.getElem?_eq_getElem (show t % 3 < (encS xs[t / 3]).length by rw [e1]; omega)]
 ·have h3 : xs[t / 3]? = none := List.getElem?_eq_none (by omega)
  rw [h3]
  simp [flatK]
  omega
theorem reps_flat {R : S34 → List Value → Prop} (hR : ∀ p c, R p c → c = encS p) : ∀ (xs : List S34) (inner : List Value), Reps R 3 xs inner → inner = xs.flatMap encS
 | [], inner, h => by have := h.1; simp at this; simp [this]
 | p :: ps, inner, h => by
  have h0 := hR _ _ (h.2 0 p rfl)
  have ih := reps_flat hR ps (inner.drop 3) ⟨by rw [List.length_drop, h.1, List.length_cons]; omega, fun j q hq => by
   have h1 := h.2 (j + 1) q hq
   rw [show (j + 1) * 3 = 3 + j * 3 by omega, ← List.drop_drop] at h1
   exact h1⟩
  rw [Nat.zero_mul, List.drop_zero] at h0
  rw [List.flatMap_cons, ← ih, ← h0, List.take_append_drop]
theorem flat_reps {R : S34 → List Value → Prop} (hR : ∀ p, R p (encS p)) (xs : List S34) : Reps R 3 xs (xs.flatMap encS) :=
 ⟨flat_len xs, fun j p hj => by
  have e : ((xs.flatMap encS).drop (j * 3)).take 3 = encS p := by
   apply List.ext_getElem?
   intro i
   by_cases hi : i < 3
   ·rw [List.getElem?_take_of_lt hi, List.getElem?_drop, flat_get, show (j * 3 + i) / 3 = j by omega, show (j * 3 + i) % 3 = i by omega, hj]; rfl
   ·rw [List.getElem?_take_eq_none (by omega), List.getElem?_eq_none (by rw [encS_len]; omega)]
  rw [e]; exact hR p⟩
theorem R_cells {w : World} {base g n cap : Nat} {ok : Nat → Prop} {xs : List S34} (h : Kd.R k34 34 w base ok (.slice (some ⟨g, 0, none⟩) n cap) xs) :
  n = xs.length ∧ ok g ∧ base ≤ g ∧ n ≤ cap ∧ cap ≤ maxLen ∧ ∃ cur : Array Value, w.heap[g]? = some (.cells cur 34 (0, 0)) ∧ cur.size = cap * 3 ∧ cur.toList.take (n * 3) = xs.flatMap encS := by
 have hn := (Kd.R_reads' h).1
 obtain ⟨hok, inner, ho, hr⟩ := h
 have e := reps_flat (fun p c hp => k34_openM hp) xs inner hr
 rcases ho.2 with ⟨h0, _⟩ | ⟨g', cap', cur, hv, hg, hb, h1, h2, h3, h4⟩
 ·cases h0
 cases hv
 rw [hn]
 exact ⟨rfl, hok g rfl, hg, h1, h2, cur, hb, h3, by rw [← e]; exact h4⟩
theorem R_of_cells {w : World} {base g n cap : Nat} {ok : Nat → Prop} {xs : List S34} {cur : Array Value} (hn : n = xs.length) (hok : ok g) (hg : base ≤ g) (h1 : n ≤ cap) (h2 : cap ≤ maxLen) (hb : w.heap[g]? = some (.cells cur 34 (0, 0)))
  (h3 : cur.size = cap * 3) (h4 : cur.toList.take (n * 3) = xs.flatMap encS) : Kd.R k34 34 w base ok (.slice (some ⟨g, 0, none⟩) n cap) xs := by
 subst hn
 exact ⟨fun k hk => by simp [Value.ownBlock] at hk; subst hk; exact hok, xs.flatMap encS, ⟨flat_len xs, .inr ⟨g, cap, cur, rfl, hg, hb, h1, h2, h3, h4⟩⟩, flat_reps (fun p => k34_mkM _ _ _ p) xs⟩
theorem holds_id {w : World} {g : Nat} {cur : Array Value} {e : TypeId} (F : Array Value) (hb : w.heap[g]? = some (.cells cur e (0, 0))) (ht : cur.toList.take F.size = F.toList) : Holds id w g 0 F := by
 intro j hj
 refine ⟨?_, by simp [World.frozen?, hb]⟩
 have h1 : (cur.toList.take F.size)[j]? = F.toList[j]? := by rw [ht]
 rw [List.getElem?_take_of_lt hj] at h1
 simp only [World.cell?, hb, Nat.zero_add]
 simp only [Option.isSome_none, Bool.false_eq_true, if_false]
 rw [← Array.getElem?_toList, h1]
 simp [hj]
theorem heap_sortedK {w : World} {g n : Nat} {os : Array Obj} {cur : Array Value} {e : TypeId} {fr : Nat × Nat} (d : Array Value) (hb : w.heap[g]? = some (.cells cur e fr)) :
  (grow (putRow id (Sort.ahead w n) g 0 d) os).heap[g]? = some (.cells (putCells id 0 d cur) e fr) := by
 have hg : g < w.heap.size := (Array.getElem?_eq_some_iff.1 hb).1
 rw [heap_grow_old _ _ (by simpa using hg)]
 simp [putRow, mapBlock, Sort.ahead, Array.getElem?_modify, hb, onCells]
theorem grownBy_sortedK {w : World} {g n : Nat} {os : Array Obj} (d : Array Value) : w.grownBy (grow (putRow id (Sort.ahead w n) g 0 d) os) (some g) := by
 refine ⟨rfl, rfl, rfl, by simp, fun k hk hne => ?_⟩
 rw [heap_grow_old _ _ (by simpa using hk)]
 have : g ≠ k := fun e => hne (by rw [e])
 simp [putRow, mapBlock, Sort.ahead, Array.getElem?_modify, this]
theorem take_putCellsK (cur ts : Array Value) (h : ts.size ≤ cur.size) : (putCells id 0 ts cur).toList.take ts.size = ts.toList := by
 apply List.ext_getElem?
 intro j
 by_cases hj : j < ts.size
 ·rw [List.getElem?_take_of_lt hj, Array.getElem?_toList]
  simp [putCells, hj, show j < cur.size by omega]
 ·rw [List.getElem?_take_eq_none (by omega), List.getElem?_eq_none (by simp; omega)]
theorem R_holds {w : World} {base g n cap : Nat} {ok : Nat → Prop} {xs : List S34} (h : Kd.R k34 34 w base ok (.slice (some ⟨g, 0, none⟩) n cap) xs) : HoldsK encS 3 w g 0 xs.toArray := by
 obtain ⟨rfl, _, _, _, _, cur, hb, h3, h4⟩ := R_cells h
 refine holds_id _ hb ?_
 rw [flatK_list, size_flatK]
 exact h4
theorem R_sorted {w : World} {base g n cap m : Nat} {os : Array Obj} {ok : Nat → Prop} {xs ys : List S34} (h : Kd.R k34 34 w base ok (.slice (some ⟨g, 0, none⟩) n cap) xs) (hl : ys.length = xs.length) :
  Kd.R k34 34 (sortWorldK encS 3 w g 0 m ys.toArray os) base ok (.slice (some ⟨g, 0, none⟩) n cap) ys ∧ w.grownBy (sortWorldK encS 3 w g 0 m ys.toArray os) (some g) := by
 obtain ⟨rfl, hok, hg, h1, h2, cur, hb, h3, h4⟩ := R_cells h
 refine ⟨R_of_cells hl.symm hok hg h1 h2 (heap_sortedK _ hb) (by simp [putCells, h3]) ?_, grownBy_sortedK _⟩
 have e := take_putCellsK cur (flatK encS 3 ys.toArray) (by rw [size_flatK, h3]; simp; omega)
 rw [flatK_list, size_flatK] at e
 rw [← hl]
 exact e
/-- 'clear' of a row's tail: the elements ahead of it stay. -/
theorem R_clear_ {base g n cap : Nat} {ok : Nat → Prop} : ∀ (m i : Nat) (xs : List S34) (W : World), Kd.R k34 34 W base ok (.slice (some ⟨g, 0, none⟩) n cap) xs → i + m = n →
  ∃ ys : List S34, Kd.R k34 34 (W.setCells g (i * 3) ((List.replicate m z34).flatMap encS)) base ok (.slice (some ⟨g, 0, none⟩) n cap) ys ∧ ys.take i = xs.take i ∧ W.grownBy (W.setCells g (i * 3) ((List.replicate m z34).flatMap encS)) (some g)
 | 0, i, xs, W, h, hi => ⟨xs, h, rfl, World.grownBy.refl _ _⟩
 | m + 1, i, xs, W, h, hi => by
  obtain ⟨ce, hcl, hM, hcc, _⟩ := Kd.R_elem h z34 (i : Int) (by omega) (by omega)
  have hs := Kd.R_seg h (i : Int) (by omega) (by omega) (j := 0) (seg := encS z34) hcl hcc (Nat.le_refl 3) (x' := z34) (okp := fun k => ok k ∧ k ≠ g) (by
   have e := k34_openM hM
   rw [e]
   exact k34_mkM _ _ _ z34) (fun _ hk => hk)
  obtain ⟨h1, g1⟩ := hs
  simp only [Int.toNat_natCast, Nat.add_zero] at h1 g1
  obtain ⟨ys, h2, ht, g2⟩ := R_clear_ m (i + 1) _ _ h1 (by omega)
  have e : W.setCells g (i * 3) ((List.replicate (m + 1) z34).flatMap encS) = (W.setCells g (i * 3) (encS z34)).setCells g ((i + 1) * 3) ((List.replicate m z34).flatMap encS) := by
   rw [List.replicate_succ, List.flatMap_cons, show (i + 1) * 3 = i * 3 + 1 + 1 + 1 by omega]
   rfl
  rw [e]
  refine ⟨ys, h2, ?_, g1.trans g2⟩
  have h5 : (ys.take (i + 1)).take i = ((xs.set i z34).take (i + 1)).take i := by rw [ht]
  rw [List.take_take, List.take_take, Nat.min_eq_left (by omega)] at h5
  rw [h5, List.take_set_of_le (Nat.le_refl i)]
theorem run_clear3 (w : World) (ty : TypeId) (A : Option Addr) (n c g o : Nat) (hA : 0 < n → A = some ⟨g, o, none⟩) (hc : ∀ j, j < n * 3 → (w.cell? ⟨g, o + j, none⟩).isSome = true) (hf : ∀ j, j < n * 3 → w.frozen? ⟨g, o + j, none⟩ = false) :
  (Builtin.clear_ #[25] ty #[.slice A n c]).run Tryz.prog w = .ok (.tuple #[]) (w.setCells g o ((List.replicate n z34).flatMap encS)) := by
 cases n with
 | zero => cases A <;> simp [Builtin.clear_, run_underlying Tryz.underlying25] <;> rfl
 | succ m =>
  rw [hA (by omega)]
  have hv : ∀ w, (zeroValue 34).run Tryz.prog w = .ok (.agg #[.int .i64 0, .int .i64 0, .string ⟨#[]⟩]) w := fun w => by kernel_rfl
  have hzc : (Builtin.zeroCells (Value.agg #[.int .i64 0, .int .i64 0, .string ⟨#[]⟩]).cells (m + 1)).toList = (List.replicate (m + 1) z34).flatMap encS := by
   apply List.ext_getElem?
   intro t
   rw [flat_get]
   by_cases h : t < (m + 1) * 3
   ·have h3 : t / 3 < m + 1 := by omega
    have ht : t % 3 < 3 := Nat.mod_lt _ (by omega)
    have e : (List.replicate (m + 1) z34)[t / 3]? = some z34 := by rw [List.getElem?_replicate]; simp [h3]
    rw [e]
    simp only [Builtin.zeroCells, Value.cells, Array.getElem?_toList]
    rcases (show t % 3 = 0 ∨ t % 3 = 1 ∨ t % 3 = 2 by omega) with h0 | h0 | h0 <;> simp [h, h0, encS, z34]
   ·have e : (List.replicate (m + 1) z34)[t / 3]? = none := List.getElem?_eq_none (by simp; omega)
    rw [e]
    simp [Builtin.zeroCells, Value.cells]
    omega
  have hst := run_storeCells_cells (P := Tryz.prog) g o ((List.replicate (m + 1) z34).flatMap encS) 0 w (by rw [flat_len, List.length_replicate]; simpa using hc) (by rw [flat_len, List.length_replicate]; simpa using hf) (fun v hv => by
   obtain ⟨x, _, hx⟩ := List.mem_flatMap.1 hv
   exact encS_one x v hx)
  simp only [Nat.add_zero] at hst
  simp [Builtin.clear_, run_underlying Tryz.underlying25, hv, hzc, hst]
/-! ### The order of values -/
def cmpI (a b : Int) : Int := if a < b then -1 else if a > b then 1 else 0
def cmpS (a b : ByteArray) : Int := if (Op.bytesLess a.toList b.toList) = true then -1 else if (Op.bytesLess b.toList a.toList) = true then 1 else 0
/-- What value.Compare answers. -/
def cmpV (x y : S34) : Int := if cmpI x.f0 y.f0 ≠ 0 then cmpI x.f0 y.f0 else if cmpI x.f1 y.f1 ≠ 0 then cmpI x.f1 y.f1 else cmpS x.f2 y.f2
def ltV (x y : S34) : Prop := x.f0 < y.f0 ∨ (x.f0 = y.f0 ∧ (x.f1 < y.f1 ∨ (x.f1 = y.f1 ∧ x.f2.toList < y.f2.toList)))
theorem cmpI_cases (a b : Int) : (cmpI a b = -1 ∧ a < b) ∨ (cmpI a b = 1 ∧ b < a) ∨ (cmpI a b = 0 ∧ a = b) := by
 unfold cmpI
 by_cases h : a < b
 ·simp [h]
 ·by_cases h2 : b < a
  ·simp [h, h2]
  ·exact .inr (.inr ⟨by simp [h, h2], by omega⟩)
theorem bytes_toList_inj {a b : ByteArray} (h : a.toList = b.toList) : a = b := by
 rw [Lib.toList_data, Lib.toList_data] at h
 cases a; cases b
 simp at h
 rw [h]
theorem bl_tri (a b : List UInt8) : a < b ∨ b < a ∨ a = b := by
 rcases Classical.em (a < b) with h | h
 ·exact .inl h
 ·rcases Classical.em (b < a) with h2 | h2
  ·exact .inr (.inl h2)
  ·exact .inr (.inr (List.le_antisymm (List.not_lt.1 h2) (List.not_lt.1 h)))
theorem cmpS_cases (a b : ByteArray) : (cmpS a b = -1 ∧ a.toList < b.toList) ∨ (cmpS a b = 1 ∧ b.toList < a.toList) ∨ (cmpS a b = 0 ∧ a.toList = b.toList) := by
 unfold cmpS
 simp only [bytesLess_eq, decide_eq_true_eq]
 rcases bl_tri a.toList b.toList with h | h | h
 ·simp [h]
 ·have : ¬ a.toList < b.toList := fun h' => List.lt_irrefl _ (List.lt_trans h h')
  simp [h, this]
 ·rw [h]
  have := List.lt_irrefl b.toList
  simp [this]
theorem ltOf_iff (x y : S34) : ltOf cmpV x y = true ↔ ltV x y := by
 unfold ltOf ltV cmpV
 rcases cmpI_cases x.f0 y.f0 with ⟨e, h⟩ | ⟨e, h⟩ | ⟨e, h⟩ <;> rw [e]
 ·simp [h]
 ·have h1 : ¬ x.f0 < y.f0 := by omega
  have h2 : ¬ x.f0 = y.f0 := by omega
  simp [h1, h2]
 ·rcases cmpI_cases x.f1 y.f1 with ⟨e1, h1⟩ | ⟨e1, h1⟩ | ⟨e1, h1⟩ <;> rw [e1]
  ·simp [h, h1]
  ·have h2 : ¬ x.f1 < y.f1 := by omega
   have h3 : ¬ x.f1 = y.f1 := by omega
   simp [h, h2, h3]
  ·rcases cmpS_cases x.f2 y.f2 with ⟨e2, h2⟩ | ⟨e2, h2⟩ | ⟨e2, h2⟩ <;> rw [e2]
   ·simp [h, h1, h2]
   ·have h3 : ¬ x.f2.toList < y.f2.toList := fun h' => List.lt_irrefl _ (List.lt_trans h' h2)
    simp [h, h1, h3]
   ·rw [h2]
    have := List.lt_irrefl y.f2.toList
    simp [h, h1, this]
theorem ltV_irrefl (x : S34) : ¬ ltV x x := by
 rintro (h | ⟨_, h | ⟨_, h⟩⟩)
 ·omega
 ·omega
 ·exact List.lt_irrefl _ h
theorem ltV_trans {x y z : S34} : ltV x y → ltV y z → ltV x z := by
 rintro (h | ⟨h, h1 | ⟨h1, h2⟩⟩) (k | ⟨k, k1 | ⟨k1, k2⟩⟩)
 all_goals first
  | exact .inl (by omega)
  | exact .inr ⟨by omega, .inl (by omega)⟩
  | exact .inr ⟨by omega, .inr ⟨by omega, List.lt_trans h2 k2⟩⟩
theorem ltV_tri (x y : S34) : ltV x y ∨ ltV y x ∨ x = y := by
 rcases Int.lt_trichotomy x.f0 y.f0 with h | h | h
 ·exact .inl (.inl h)
 ·rcases Int.lt_trichotomy x.f1 y.f1 with h1 | h1 | h1
  ·exact .inl (.inr ⟨h, .inl h1⟩)
  ·rcases bl_tri x.f2.toList y.f2.toList with h2 | h2 | h2
   ·exact .inl (.inr ⟨h, .inr ⟨h1, h2⟩⟩)
   ·exact .inr (.inl (.inr ⟨h.symm, .inr ⟨h1.symm, h2⟩⟩))
   ·refine .inr (.inr ?_)
    have e : x.f2 = y.f2 := bytes_toList_inj h2
    cases x; cases y; cases h; cases h1; cases e; rfl
  ·exact .inr (.inl (.inr ⟨h.symm, .inl h1⟩))
 ·exact .inr (.inl (.inl h))
theorem ltOf_false (x y : S34) : ltOf cmpV x y = false ↔ ¬ ltV x y := by rw [← ltOf_iff]; simp
theorem swoV : SWO (ltOf cmpV) where
 irrefl x := (ltOf_false _ _).2 (ltV_irrefl x)
 trans x y z h1 h2 := (ltOf_iff _ _).2 (ltV_trans ((ltOf_iff _ _).1 h1) ((ltOf_iff _ _).1 h2))
 ntrans x y z h1 h2 := by
  rw [ltOf_false] at *
  intro h
  rcases ltV_tri y z with k | k | k
  ·exact h2 k
  ·exact h1 (ltV_trans h k)
  ·exact h1 (by rw [k]; exact h)
theorem totV (x y : S34) (h1 : ltOf cmpV x y = false) (h2 : ltOf cmpV y x = false) : x = y := by
 rw [ltOf_false] at *
 rcases ltV_tri x y with k | k | k
 ·exact (h1 k).elim
 ·exact (h2 k).elim
 ·exact k
/-- A world grown by draws and blocks alone. -/
def Grew (w w' : World) : Prop := ∃ q os, w' = grow (w.drewN q) os
theorem Grew.refl (w : World) : Grew w w := ⟨0, #[], by rw [grow_empty]; rfl⟩
theorem Grew.trans {w v u : World} (h : Grew w v) (k : Grew v u) : Grew w u := by
 obtain ⟨q, os, rfl⟩ := h
 obtain ⟨q', os', rfl⟩ := k
 exact ⟨q + q', os ++ os', by simp [grow, World.drewN, Nat.add_assoc]⟩
theorem Grew.drewN {w v : World} (h : Grew w v) (n : Nat) : Grew w (v.drewN n) := h.trans ⟨n, #[], by rw [grow_empty]⟩
theorem Grew.drew {w v : World} (h : Grew w v) : Grew w v.drew := h.trans ⟨1, #[], by rw [grow_empty]; rfl⟩
theorem Grew.alloc {w v : World} (h : Grew w v) (o : Obj) : Grew w (v.alloc o) := h.trans ⟨0, #[o], by rw [alloc_eq_grow]; rfl⟩
section
variable {P : Program} {ops : Array Oper} {rest : List Oper} {o : Oper} {a : Act} {Q : Exit → Act → World → Prop}
theorem box_eventG {W : World} (hgd : o.guard = none) {N : Tmp} (_hd : o.dst = some N) {cs : Array Value} {t : TypeId}
  (hrun : (execOp a.eval o).run P W = .ok (.value (.pointer (some ⟨W.heap.size, 0, none⟩))) (W.alloc (.cells cs t (0, 0))))
  (h : ∀ g, g = W.heap.size → ∀ w1, w1.heap[g]? = some (.cells cs t (0, 0)) → Below W.heap.size W w1 → Grew W w1 → wpList P ops Q rest (a.put o.dst (.pointer (some ⟨g, 0, none⟩))) w1) : wpList P ops Q (o :: rest) a W :=
 Kd.event_run hgd hrun (h _ rfl _ (blk_new W _) (below_alloc (Below.refl _ _) _) ((Grew.refl W).alloc _))
theorem lit_stepG {Kc : Act → World → Prop} {w0 W : World} (base e : Nat) (hw : Region.wanted o (yielded ops a.tmps) = true) {N : Tmp} (_hd : o.dst = some N) {xs : List Int} {inner : List Value} {ok okp : Nat → Prop}
  (hrun : (execOp a.eval o).run P W = .ok (.value (.slice (some ⟨W.heap.size, 0, none⟩) xs.length xs.length)) (W.alloc (.cells inner.toArray e)))
  (hrep : Reps ((Kd.int .i64).M W base okp) (Kd.int .i64).sz xs inner) (hok : ∀ k, okp k → ok k) (hfresh : ok W.heap.size) (HB : Below base w0 W) (hbase : base ≤ W.heap.size) (hm : xs.length ≤ 9223372036854775807)
  (h : ∀ v1 w1, (Kd.int .i64).R e w1 base ok v1 xs → Below base w0 w1 → Grew W w1 → Kc (a.put o.dst v1) w1) : if Region.wanted o (yielded ops a.tmps) = true then Oper.wp P o a W Kc Q else Kc (a.put o.dst undef) W := by
 refine event_step hw hrun (h _ _ ⟨fun k hk => ?_, OwnRow.lit W base hrep hbase hm⟩ (HB.alloc hbase _) ((Grew.refl W).alloc _))
 have : W.heap.size = k := by simpa [Value.ownBlock] using hk
 subst this
 exact hfresh
end
set_option maxHeartbeats 8000000 in
set_option maxRecDepth 100000 in
theorem value_Compare.grew (k : Nat) (a0_0 : Int) (a0_1 : Int) (a0_2 : ByteArray) (a1_0 : Int) (a1_1 : Int) (a1_2 : ByteArray) (r : Int) (w : World) (h : value_Compare.f k a0_0 a0_1 a0_2 a1_0 a1_1 a1_2 = some r) (hGL : GL w) :
  Calls Tryz.prog 23 #[.agg #[.int .i64 a0_0, .int .i64 a0_1, .string a0_2], .agg #[.int .i64 a1_0, .int .i64 a1_1, .string a1_2]] w fun e w' => e = .returned (.int .i64 r) ∧ Grew w w' := by
 have hu34 := Tryz.underlying34
 have HB := mk0 (Below.refl w.heap.size w)
 have HG := mk0 (Grew.refl w)
 have H : ((cmp_Compare_int.f a0_0 a1_0).bind fun t202 => ((cmp_Compare_int.f a0_1 a1_1).bind fun t203 => ((cmp_Compare_string.f a0_2 a1_2).bind fun t204 => ((cmp_Or_int.f k (([t202, t203, t204] : List Int))).bind fun t208 => (some t208))))) = some r := h
 clear h
 replace H := Option.bind_eq_some_iff.mp H
 obtain ⟨t202, A30, H⟩ := H
 replace H : ((cmp_Compare_int.f a0_1 a1_1).bind fun t203 => ((cmp_Compare_string.f a0_2 a1_2).bind fun t204 => ((cmp_Or_int.f k (([t202, t203, t204] : List Int))).bind fun t208 => (some t208)))) = some r := H
 have A3 := mk0 A30
 clear A30
 replace H := Option.bind_eq_some_iff.mp H
 obtain ⟨t203, A40, H⟩ := H
 replace H : ((cmp_Compare_string.f a0_2 a1_2).bind fun t204 => ((cmp_Or_int.f k (([t202, t203, t204] : List Int))).bind fun t208 => (some t208))) = some r := H
 have A4 := mk0 A40
 clear A40
 replace H := Option.bind_eq_some_iff.mp H
 obtain ⟨t204, A50, H⟩ := H
 replace H : ((cmp_Or_int.f k (([t202, t203, t204] : List Int))).bind fun t208 => (some t208)) = some r := H
 have A5 := mk0 A50
 clear A50
 obtain ⟨y205, hy205⟩ : ∃ y_ : List Int, y_ = (([t202, t203, t204] : List Int)) := ⟨_, rfl⟩
 replace H : ((cmp_Or_int.f k y205).bind fun t208 => (some t208)) = some r := by first | (rw [hy205]; with_reducible exact H) | (have H2_ := (Option.bind_some _ _).symm.trans H; rw [hy205]; with_reducible exact H2_) | (have H2_ := (Option.bind_some _ _).symm.trans H; with_reducible exact H2_) | with_reducible exact H | (rw [hy205]; exact H) | exact H
 have Ny205 := mk0 hy205
 clear hy205
 replace H := Option.bind_eq_some_iff.mp H
 obtain ⟨t208, A60, H⟩ := H
 replace H : (some t208) = some r := H
 have A6 := mk0 A60
 clear A60
 obtain rfl := Option.some.inj H
 go_enter Tryz.func23, Tryz.ntmps23
 try go_wp2_with (first | ((with_reducible refine gate_dst (N := 2) rfl ?_); refine box_eventG ?hg (N := 2) ?hd (cs := #[.int .i64 a0_0, .int .i64 a0_1, .string a0_2]) (t := 34) ?hr ?_; (case hd => rfl); (case hg => rfl); (case hr => first | (go_simp; done) | (go_simp; rfl)); intro gb200 hg w7 hbox hb hgr; have HGn := mk0 (Grew.trans (by repeat (first | (with_reducible first | exact HG.out | apply Grew.alloc | apply Grew.drewN | apply Grew.drew) | exact HG.out)) hgr); clear HG hgr; have HG := HGn; clear HGn; have BK200 := mk0 hbox; have GW200 := mk0 (szA (w := w) hg); have GE200 := mk0 (szA (w := w) hg); replace HB := mk0 (below_step hbA hb); clear hb hbox hg) | ((with_reducible refine gate_dst (N := 3) rfl ?_); refine box_eventG ?hg (N := 3) ?hd (cs := #[.int .i64 a1_0, .int .i64 a1_1, .string a1_2]) (t := 34) ?hr ?_; (case hd => rfl); (case hg => rfl); (case hr => first | (go_simp; done) | (go_simp; rfl)); intro gb201 hg w8 hbox hb hgr; have HGn := mk0 (Grew.trans (by repeat (first | (with_reducible first | exact HG.out | apply Grew.alloc | apply Grew.drewN | apply Grew.drew) | exact HG.out)) hgr); clear HG hgr; have HG := HGn; clear HGn; have BK201 := mk0 hbox; have GW201 := mk0 (szB (w := w) hg); have GE201 := mk0 (szB (w := w) hg); have NB200_201 := mk0 (neA (g := gb200) hg); have NB201_200 := mk0 ((neA (g := gb200) hg).symm); replace BK200 := mk0 (bbA (g := gb200) hb); replace HB := mk0 (below_step hbB hb); clear hb hbox hg))
 have n0_ := mk0 (blk_drew BK200.out)
 have n1_ := mk0 (blk_drew BK201.out)
 have HGn := mk0 (Grew.drew HG.out)
 clear HG
 have HG := HGn
 clear HGn
 have n2_ := mk0 (below_drew1 HB.out)
 clear BK200
 clear BK201
 clear HB
 have BK200 := n0_
 have BK201 := n1_
 have HB := n2_
 clear n0_ n1_ n2_
 refine start_ (n := 18) (S := fun w' => w'.cell? ⟨gb200, 0, none⟩ = some (.int .i64 a0_0) ∧ w'.cell? ⟨gb200, 1, none⟩ = some (.int .i64 a0_1) ∧ w'.cell? ⟨gb200, 2, none⟩ = some (.string a0_2) ∧ w'.cell? ⟨gb201, 0, none⟩ = some (.int .i64 a1_0) ∧ w'.cell? ⟨gb201, 1, none⟩ = some (.int .i64 a1_1) ∧ w'.cell? ⟨gb201, 2, none⟩ = some (.string a1_2)) (ds := []) #[false, false, false, false, false, false, false, false, false, false, false, false, false, false, false, false, false, false] (by kernel_rfl) rfl rfl ⟨(blk_cell BK200.out 0).trans rfl, (blk_cell BK200.out 1).trans rfl, (blk_cell BK200.out 2).trans rfl, (blk_cell BK201.out 0).trans rfl, (blk_cell BK201.out 1).trans rfl, (blk_cell BK201.out 2).trans rfl⟩ (fun hHeld => ?_); refine with_tabW value_Compare.tab1 value_Compare.bits1 (fun HT_ HW_ => ?_)
 generalize w8.drew = w9 at BK200 BK201 HB HG hHeld ⊢
 refine pure_ (i := 0) (N := some 5) (v := ?_) (a' := ?_) #[true, false, false, false, false, false, false, false, false, false, false, false, false, false, false, false, false, false] rfl rfl (any_of HT_.out (by kernel_rfl)) (fun _ _ _ h => h) (Or.inl ⟨by rfl, ?_⟩) ?_ ?_
 rotate_left
 ·exact goA
 rotate_left
 ·exact puA
 refine pure_ (i := 2) (N := some 7) (v := ?_) (a' := ?_) #[true, false, true, false, false, false, false, false, false, false, false, false, false, false, false, false, false, false] rfl rfl (any_of HT_.out (by kernel_rfl)) (fun _ _ _ h => h) (Or.inl ⟨by rfl, ?_⟩) ?_ ?_
 rotate_left
 ·exact goA
 rotate_left
 ·exact puA
 refine pure_ (i := 5) (N := some 10) (v := ?_) (a' := ?_) #[true, false, true, false, false, true, false, false, false, false, false, false, false, false, false, false, false, false] rfl rfl (any_of HT_.out (by kernel_rfl)) (fun _ _ _ h => h) (Or.inl ⟨by rfl, ?_⟩) ?_ ?_
 rotate_left
 ·exact goA
 rotate_left
 ·exact puA
 refine pure_ (i := 7) (N := some 12) (v := ?_) (a' := ?_) #[true, false, true, false, false, true, false, true, false, false, false, false, false, false, false, false, false, false] rfl rfl (any_of HT_.out (by kernel_rfl)) (fun _ _ _ h => h) (Or.inl ⟨by rfl, ?_⟩) ?_ ?_
 rotate_left
 ·exact goA
 rotate_left
 ·exact puA
 refine pure_ (i := 10) (N := some 15) (v := ?_) (a' := ?_) #[true, false, true, false, false, true, false, true, false, false, true, false, false, false, false, false, false, false] rfl rfl (any_of HT_.out (by kernel_rfl)) (fun _ _ _ h => h) (Or.inl ⟨by rfl, ?_⟩) ?_ ?_
 rotate_left
 ·exact goA
 rotate_left
 ·exact puA
 refine pure_ (i := 12) (N := some 17) (v := ?_) (a' := ?_) #[true, false, true, false, false, true, false, true, false, false, true, false, true, false, false, false, false, false] rfl rfl (any_of HT_.out (by kernel_rfl)) (fun _ _ _ h => h) (Or.inl ⟨by rfl, ?_⟩) ?_ ?_
 rotate_left
 ·exact goA
 rotate_left
 ·exact puA
 refine take_ (i := 1) (N := some 6) (v := ?_) (a' := ?_) #[true, true, true, false, false, true, false, true, false, false, true, false, true, false, false, false, false, false] rfl rfl (take_ofW HT_.out HW_.out (by kernel_rfl)) (fun _ _ _ h => h) (Or.inl ⟨by rfl, ?_⟩) hHeld ?_ ?_
 rotate_left
 ·rintro w' ⟨s0, s1, s2, s3, s4, s5⟩
  go_simp
  with_reducible rfl
 rotate_left
 ·exact puA
 refine take_ (i := 3) (N := some 8) (v := ?_) (a' := ?_) #[true, true, true, true, false, true, false, true, false, false, true, false, true, false, false, false, false, false] rfl rfl (take_ofW HT_.out HW_.out (by kernel_rfl)) (fun _ _ _ h => h) (Or.inl ⟨by rfl, ?_⟩) hHeld ?_ ?_
 rotate_left
 ·rintro w' ⟨s0, s1, s2, s3, s4, s5⟩
  go_simp
  with_reducible rfl
 rotate_left
 ·exact puA
 refine take_ (i := 6) (N := some 11) (v := ?_) (a' := ?_) #[true, true, true, true, false, true, true, true, false, false, true, false, true, false, false, false, false, false] rfl rfl (take_ofW HT_.out HW_.out (by kernel_rfl)) (fun _ _ _ h => h) (Or.inl ⟨by rfl, ?_⟩) hHeld ?_ ?_
 rotate_left
 ·rintro w' ⟨s0, s1, s2, s3, s4, s5⟩
  go_simp
  with_reducible rfl
 rotate_left
 ·exact puA
 refine take_ (i := 8) (N := some 13) (v := ?_) (a' := ?_) #[true, true, true, true, false, true, true, true, true, false, true, false, true, false, false, false, false, false] rfl rfl (take_ofW HT_.out HW_.out (by kernel_rfl)) (fun _ _ _ h => h) (Or.inl ⟨by rfl, ?_⟩) hHeld ?_ ?_
 rotate_left
 ·rintro w' ⟨s0, s1, s2, s3, s4, s5⟩
  go_simp
  with_reducible rfl
 rotate_left
 ·exact puA
 refine take_ (i := 11) (N := some 16) (v := ?_) (a' := ?_) #[true, true, true, true, false, true, true, true, true, false, true, true, true, false, false, false, false, false] rfl rfl (take_ofW HT_.out HW_.out (by kernel_rfl)) (fun _ _ _ h => h) (Or.inl ⟨by rfl, ?_⟩) hHeld ?_ ?_
 rotate_left
 ·rintro w' ⟨s0, s1, s2, s3, s4, s5⟩
  go_simp
  with_reducible rfl
 rotate_left
 ·exact puA
 refine take_ (i := 13) (N := some 18) (v := ?_) (a' := ?_) #[true, true, true, true, false, true, true, true, true, false, true, true, true, true, false, false, false, false] rfl rfl (take_ofW HT_.out HW_.out (by kernel_rfl)) (fun _ _ _ h => h) (Or.inl ⟨by rfl, ?_⟩) hHeld ?_ ?_
 rotate_left
 ·rintro w' ⟨s0, s1, s2, s3, s4, s5⟩
  go_simp
  with_reducible rfl
 rotate_left
 ·exact puA
 refine one_ (i := 4) (N := some 9) #[true, true, true, true, true, true, true, true, true, false, true, true, true, true, false, false, false, false] rfl rfl (one_of HT_.out (by kernel_rfl)) (by decide) (fun K hK => ?_)
 refine goes_ Tryz.func34 (by kernel_rfl) rfl #[.int .i64 a0_0, .int .i64 a1_0] (by rfl) rfl rfl (by (try simp only [List.map_toArray, List.map_cons, List.map_nil]); first | done | rfl | (simp only [List.length_drop, List.length_take]; rfl)) ?_
 with_reducible refine (cmp_Compare_int.calls a0_0 a1_0 t202 _ A3.out).mono ?_
 rintro e w' ⟨rfl, ⟨nd, rfl⟩⟩
 refine ⟨_, rfl, ?_⟩
 refine hK.out _ _ ⟨(blk_cell BK200.out 0).trans rfl, (blk_cell BK200.out 1).trans rfl, (blk_cell BK200.out 2).trans rfl, (blk_cell BK201.out 0).trans rfl, (blk_cell BK201.out 1).trans rfl, (blk_cell BK201.out 2).trans rfl⟩ (fun hHeld => ?_)
 clear hK K
 refine norm_ (a' := ?_) ?_ ?_
 rotate_left
 ·show Act.put _ (some 9) _ = _
  simp only [Act.put, List.setIfInBounds_toArray, List.set_cons_zero, List.set_cons_succ, i64_w, i32_w]
  rfl
 refine one_ (i := 9) (N := some 14) #[true, true, true, true, true, true, true, true, true, true, true, true, true, true, false, false, false, false] rfl rfl (one_of HT_.out (by kernel_rfl)) (by decide) (fun K hK => ?_)
 refine goes_ Tryz.func34 (by kernel_rfl) rfl #[.int .i64 a0_1, .int .i64 a1_1] (by rfl) rfl rfl (by (try simp only [List.map_toArray, List.map_cons, List.map_nil]); first | done | rfl | (simp only [List.length_drop, List.length_take]; rfl)) ?_
 with_reducible refine (cmp_Compare_int.calls a0_1 a1_1 t203 _ A4.out).mono ?_
 rintro e w' ⟨rfl, ⟨nd, rfl⟩⟩
 refine ⟨_, rfl, ?_⟩
 refine hK.out _ _ ⟨(blk_cell BK200.out 0).trans rfl, (blk_cell BK200.out 1).trans rfl, (blk_cell BK200.out 2).trans rfl, (blk_cell BK201.out 0).trans rfl, (blk_cell BK201.out 1).trans rfl, (blk_cell BK201.out 2).trans rfl⟩ (fun hHeld => ?_)
 clear hK K
 refine norm_ (a' := ?_) ?_ ?_
 rotate_left
 ·show Act.put _ (some 14) _ = _
  simp only [Act.put, List.setIfInBounds_toArray, List.set_cons_zero, List.set_cons_succ, i64_w, i32_w]
  rfl
 refine one_ (i := 14) (N := some 19) #[true, true, true, true, true, true, true, true, true, true, true, true, true, true, true, false, false, false] rfl rfl (one_of HT_.out (by kernel_rfl)) (by decide) (fun K hK => ?_)
 refine goes_ Tryz.func35 (by kernel_rfl) rfl #[.string a0_2, .string a1_2] (by rfl) rfl rfl (by (try simp only [List.map_toArray, List.map_cons, List.map_nil]); first | done | rfl | (simp only [List.length_drop, List.length_take]; rfl)) ?_
 with_reducible refine (cmp_Compare_string.calls a0_2 a1_2 t204 _ A5.out).mono ?_
 rintro e w' ⟨rfl, ⟨nd, rfl⟩⟩
 refine ⟨_, rfl, ?_⟩
 refine hK.out _ _ ⟨(blk_cell BK200.out 0).trans rfl, (blk_cell BK200.out 1).trans rfl, (blk_cell BK200.out 2).trans rfl, (blk_cell BK201.out 0).trans rfl, (blk_cell BK201.out 1).trans rfl, (blk_cell BK201.out 2).trans rfl⟩ (fun hHeld => ?_)
 clear hK K
 refine norm_ (a' := ?_) ?_ ?_
 rotate_left
 ·show Act.put _ (some 19) _ = _
  simp only [Act.put, List.setIfInBounds_toArray, List.set_cons_zero, List.set_cons_succ, i64_w, i32_w]
  rfl
 refine one_ (i := 15) (N := some 20) #[true, true, true, true, true, true, true, true, true, true, true, true, true, true, true, true, false, false] rfl rfl (one_of HT_.out (by kernel_rfl)) (by decide) (fun K hK => ?_)
 refine lit_stepG _ 3 ?hg (N := 20) ?hd (xs := ([t202, t203, t204] : List Int)) (inner := [.int .i64 t202, .int .i64 t203, .int .i64 t204]) (ok := fun _ => True) (okp := fun _ => True) ?hr ?hp (fun _ hk => hk) trivial (Below.refl _ _) (Nat.le_refl _) (by simp) ?_; (case hd => rfl); (case hg => rfl); (case hr => first | (go_simp; done) | (go_simp; rfl)); (case hp => exact (Reps.one (show Kd.M (Kd.int .i64) _ _ _ t202 [.int .i64 t202] from rfl) (Reps.one (show Kd.M (Kd.int .i64) _ _ _ t203 [.int .i64 t203] from rfl) (Reps.one (show Kd.M (Kd.int .i64) _ _ _ t204 [.int .i64 t204] from rfl) (Reps.none _ _)))))
 intro v206 w10 ho11 hb hgr
 have HGn := mk0 (Grew.trans (by repeat (first | (with_reducible first | exact HG.out | apply Grew.alloc | apply Grew.drewN | apply Grew.drew) | exact HG.out)) hgr)
 clear HG hgr
 have HG := HGn
 clear HGn
 (first | rw [← Ny205.out] at ho11 | (simp only [Int.reduceToNat] at ho11; rw [← Ny205.out] at ho11))
 have HO207 := mk0 (Kd.R_lower ho11 (below_size hbB))
 replace BK200 := mk0 (bbA (g := gb200) hb)
 replace BK201 := mk0 (bbA (g := gb201) hb)
 replace HB := mk0 (below_step hbB hb)
 clear hb ho11
 obtain ⟨Ao12, co12, eo12⟩ := Kd.R_slice HO207.out
 (first | subst eo12 | (injection eo12 with f1_ f2_ f3_; have f4_ := f1_.symm; have f5_ := f3_.symm; clear f1_ f2_ f3_; subst f4_; subst f5_))
 refine hK.out _ _ ⟨(blk_cell BK200.out 0).trans rfl, (blk_cell BK200.out 1).trans rfl, (blk_cell BK200.out 2).trans rfl, (blk_cell BK201.out 0).trans rfl, (blk_cell BK201.out 1).trans rfl, (blk_cell BK201.out 2).trans rfl⟩ (fun hHeld => ?_)
 clear hK K
 refine norm_ (a' := ?_) ?_ ?_
 rotate_left
 ·show Act.put _ (some 20) _ = _
  simp only [Act.put, List.setIfInBounds_toArray, List.set_cons_zero, List.set_cons_succ, i64_w, i32_w]
  rfl
 refine one_ (i := 16) (N := some 21) #[true, true, true, true, true, true, true, true, true, true, true, true, true, true, true, true, true, false] rfl rfl (one_of HT_.out (by kernel_rfl)) (by decide) (fun K hK => ?_)
 refine goes_ Tryz.func33 (by kernel_rfl) rfl #[.slice Ao12 y205.length co12] (by rfl) rfl rfl (by (try simp only [List.map_toArray, List.map_cons, List.map_nil]); first | done | rfl | (simp only [List.length_drop, List.length_take]; rfl)) ?_
 with_reducible refine (cmp_Or_int.calls k _ _ y205 t208 _ ?side1 ?side2 A6.out).mono ?_
 (case side1 => repeat (first | exact (Kd.R_reads' HO207.out).2.2 | (with_reducible first | refine cA ?_ | refine cN ?_ | refine cD ?_)))
 (case side2 => exact (Kd.R_reads' HO207.out).2.1)
 rintro e w' ⟨rfl, ⟨nd, rfl⟩⟩
 refine ⟨_, rfl, ?_⟩
 refine hK.out _ _ ⟨(blk_cell BK200.out 0).trans rfl, (blk_cell BK200.out 1).trans rfl, (blk_cell BK200.out 2).trans rfl, (blk_cell BK201.out 0).trans rfl, (blk_cell BK201.out 1).trans rfl, (blk_cell BK201.out 2).trans rfl⟩ (fun hHeld => ?_)
 clear hK K
 refine norm_ (a' := ?_) ?_ ?_
 rotate_left
 ·show Act.put _ (some 21) _ = _
  simp only [Act.put, List.setIfInBounds_toArray, List.set_cons_zero, List.set_cons_succ, i64_w, i32_w]
  rfl
 refine pure_ (i := 17) (N := some 4) (v := ?_) (a' := ?_) #[true, true, true, true, true, true, true, true, true, true, true, true, true, true, true, true, true, true] rfl rfl (any_of HT_.out (by kernel_rfl)) (fun _ _ _ h => h) (Or.inl ⟨by rfl, ?_⟩) ?_ ?_
 rotate_left
 ·exact goA
 rotate_left
 ·exact puA
 refine done_ (done_of HT_.out (by kernel_rfl)) ?_
 try go_wp2
 go_ret
 exact ⟨eoA, (by repeat (first | (with_reducible first | exact HG.out | apply Grew.alloc | apply Grew.drewN | apply Grew.drew) | exact HG.out))⟩
/-! ### slices.Compact, slices.SortFunc -/
theorem R_addr {w : World} {base n cap : Nat} {ad : Addr} {ok : Nat → Prop} {xs : List S34} (h : Kd.R k34 34 w base ok (.slice (some ad) n cap) xs) : ∃ g, ad = ⟨g, 0, none⟩ := by
 obtain ⟨_, inner, ho, _⟩ := h
 rcases ho.2 with ⟨h0, _⟩ | ⟨g, cap', cur, hv, _⟩
 ·cases h0
 ·cases hv
  exact ⟨g, rfl⟩
theorem clear_tail {P0 : Nat → Prop} {w0 w wr : World} {n cap : Nat} {ad : Addr} {xs ys : List S34} (h : Kd.R k34 34 wr w0.heap.size (fun k_ => (P0 k_ ∨ w.heap.size ≤ k_)) (.slice (some ad) n cap) xs) (HB : Below w0.heap.size w0 wr) (HK : Kept w wr (fun k_ => P0 k_))
  (kk : Nat) (hk : kk ≤ xs.length) {A : Option Addr} (hA : A = (if cap = kk then (some ad) else ((some ad) : Option Addr).map (·.add (kk * 3)))) (hroom : xs.length ≤ cap) (hy : ys.length = xs.length - kk) {c : Nat} (hc : c = cap - kk) :
  ∃ wc, (∀ ty, (Builtin.clear_ #[25] ty #[.slice A ys.length c]).run Tryz.prog wr = .ok (.tuple #[]) wc) ∧ (∃ zs, Kd.R k34 34 wc w0.heap.size (fun k_ => (P0 k_ ∨ w.heap.size ≤ k_)) (.slice (some ad) n cap) zs ∧ zs.take kk = xs.take kk ∧ zs.length = xs.length) ∧ Below w0.heap.size w0 wc ∧ Kept w wc (fun k_ => P0 k_) := by
 obtain ⟨g, rfl⟩ := R_addr h
 obtain ⟨rfl, hok, hg, h1, h2, cur, hb, h3, h4⟩ := R_cells h
 obtain ⟨zs, hR, ht, hgr⟩ := R_clear_ ys.length kk xs wr h (by omega)
 have hcell : ∀ j, j < ys.length * 3 → kk * 3 + j < cur.size := fun j hj => by omega
 refine ⟨_, fun ty => run_clear3 wr ty A ys.length c g (kk * 3) (fun hn => ?_) (fun j hj => ?_) (fun j hj => ?_), ⟨zs, hR, ht, (Kd.R_reads' hR).1.symm⟩, HB.grown hgr HB.size (fun k hk => by cases hk; exact hg), HK.of_grown hgr (fun k hk => by cases hk; exact hok)⟩
 ·rw [hA, if_neg (by omega)]
  simp [Addr.add]
  intro h'; exact h'.symm
 ·simp [World.cell?, hb, hcell j hj]
 ·simp [World.frozen?, hb]
/-- What slices.SortFunc lays, at value.Compare. -/
def sorted (xs : List S34) : List S34 := xs.mergeSort fun x y => !(ltOf cmpV y x)
theorem or3 (a b c : Int) : cmp_Or_int.f 5 [a, b, c] = some (if a ≠ 0 then a else if b ≠ 0 then b else c) := by
 have e0 : ∀ a b c : Int, rd [a, b, c] 0 = a := fun _ _ _ => rfl
 have e1 : ∀ a b c : Int, rd [a, b, c] 1 = b := fun _ _ _ => rfl
 have e2 : ∀ a b c : Int, rd [a, b, c] 2 = c := fun _ _ _ => rfl
 have w1 : wrap64 1 = 1 := by unfold wrap64; omega
 have w2 : wrap64 2 = 2 := by unfold wrap64; omega
 have w3 : wrap64 3 = 3 := by unfold wrap64; omega
 unfold cmp_Or_int.f
 by_cases ha : a = 0
 ·by_cases hb : b = 0
  ·by_cases hc : c = 0
   ·simp [cmp_Or_int.l0, e0, e1, e2, w1, w2, w3, ha, hb, hc]
   ·simp [cmp_Or_int.l0, e0, e1, e2, w1, w2, w3, ha, hb, hc]
  ·simp [cmp_Or_int.l0, e0, e1, e2, w1, w2, w3, ha, hb]
 ·simp [cmp_Or_int.l0, e0, e1, e2, w1, w2, w3, ha]
theorem compare_val (x y : S34) : value_Compare.f 5 x.f0 x.f1 x.f2 y.f0 y.f1 y.f2 = some (cmpV x y) := by
 have hi : ∀ a b : Int, cmp_Compare_int.f a b = some (cmpI a b) := fun a b => by
  unfold cmp_Compare_int.f cmp_isNaN_int.f cmpI
  by_cases h : a < b
  ·simp [h]
  ·by_cases h2 : b < a <;> simp [h, h2]
 have hs : ∀ a b : ByteArray, cmp_Compare_string.f a b = some (cmpS a b) := fun a b => by
  unfold cmp_Compare_string.f cmp_isNaN_string.f cmpS
  simp
  split
  ·rfl
  ·split <;> rfl
 unfold value_Compare.f
 rw [hi, hi, hs]
 simp only [Option.bind_some]
 rw [or3]
 rfl
theorem sortFunc.calls (P0_ : Nat → Prop) (u : Value) (l0 : List S34) (w0 w : World) (hGL : GL w0) (hB : Below w0.heap.size w0 w) (h : Kd.R k34 34 w w0.heap.size P0_ u l0) (hsz : l0.length < 4611686018427387904) :
  Calls Tryz.prog 22 #[u, .func (.func 23) #[] #[]] w fun e w' => e = .returned (.tuple #[]) ∧ Kd.R k34 34 w' w0.heap.size P0_ u (sorted l0) ∧ Below w0.heap.size w0 w' := by
 have hl : (sorted l0).length = l0.length := List.length_mergeSort _
 obtain ⟨_, inner, ho, _⟩ := id h
 rcases ho.2 with ⟨rfl, h0⟩ | ⟨g, cap, cur, rfl, hg, hb, h1, h2, h3, h4⟩
 ·refine (AnyF.slices_SortFunc_none Tryz.sortFuncL none 0 _ w).mono ?_
  rintro e w' ⟨rfl, rfl⟩
  have e0 : l0 = [] := List.length_eq_zero_iff.1 h0
  subst e0
  have es : sorted [] = [] := List.length_eq_zero_iff.1 hl
  rw [es]
  exact ⟨rfl, h, hB⟩
 ·have eg : ∀ args w, (callFunc 23 args).run Tryz.prog w = .ok (.enter 23 args) w := enters_of Tryz.func23 (by kernel_rfl) rfl
  have hgrow : ∀ m os (ys : List S34), w.grownBy (sortWorldK encS 3 w g 0 m ys.toArray os) (some g) := fun m os ys => grownBy_sortedK _
  have hbl : ∀ m os (ys : List S34), Below w0.heap.size w0 (sortWorldK encS 3 w g 0 m ys.toArray os) := fun m os ys => hB.grown (hgrow m os ys) hB.size (fun k hk => by cases hk; exact hg)
  have hcmp : CmpLays Tryz.prog 23 #[] encS 3 cmpV g 0 l0.toArray.size w := fun m os dk hs x y =>
   value_Compare.grew 5 x.f0 x.f1 x.f2 y.f0 y.f1 y.f2 (cmpV x y) _ (compare_val x y) (GL.of_below hGL (by simpa using hbl m os dk.toList))
  refine (AnyQ.slices_SortFunc_total Tryz.sortFuncL 3 (fun w => by kernel_rfl) (fun w => by kernel_rfl) encS encS_len encS_one cmpV swoV 23 #[] g 0 cap l0.toArray w eg hcmp (R_holds h) (Array.getElem?_eq_some_iff.1 hb).1 (by simpa using hsz) totV).mono ?_
  rintro e w' ⟨rfl, n, os, rfl⟩
  exact ⟨rfl, (R_sorted (os := os) (m := n) h hl).1, hbl n os (sorted l0)⟩
/-- The second loop of slices.Compact: what is read behind place i is as it was. -/
def JInv (x0 : List S34) (k : Int) (xs : List S34) (i q : Int) : Prop := 0 ≤ k ∧ k ≤ i ∧ i < k + q ∧ 1 ≤ q ∧ xs.length = x0.length ∧ x0.length ≤ 9223372036854775807 ∧ ∀ j, i.toNat ≤ j → xs[j]? = x0[j]?
theorem JInv.start {x0 : List S34} {k : Int} (h0 : 0 ≤ k) (hl : x0.length ≤ 9223372036854775807) : JInv x0 k x0 k 1 := ⟨h0, by omega, by omega, by omega, rfl, hl, fun _ _ => rfl⟩
theorem JInv.skip {x0 xs y : List S34} {k i q : Int} (h : JInv x0 k xs i q) (hy : y = x0.drop k.toNat) (hq : q < (y.length : Int)) : JInv x0 k xs i (wrap64 (q + 1)) := by
 obtain ⟨h1, h2, h3, h4, h5, h6, h7⟩ := h
 have hl : y.length = x0.length - k.toNat := by rw [hy, List.length_drop]
 rw [show wrap64 (q + 1) = q + 1 by unfold wrap64; omega]
 exact ⟨h1, h2, by omega, by omega, h5, h6, h7⟩
theorem JInv.keep {x0 xs ys y : List S34} {k i q : Int} {v : S34} (h : JInv x0 k xs i q) (hy : y = x0.drop k.toNat) (hq : q < (y.length : Int)) (he : ys = xs.set i.toNat v) : JInv x0 k ys (wrap64 (i + 1)) (wrap64 (q + 1)) := by
 obtain ⟨h1, h2, h3, h4, h5, h6, h7⟩ := h
 have hl : y.length = x0.length - k.toNat := by rw [hy, List.length_drop]
 rw [show wrap64 (q + 1) = q + 1 by unfold wrap64; omega, show wrap64 (i + 1) = i + 1 by unfold wrap64; omega]
 refine ⟨h1, by omega, by omega, by omega, by rw [he, List.length_set]; exact h5, h6, fun j hj => ?_⟩
 rw [he, List.getElem?_set_ne (by omega)]
 exact h7 j (by omega)
theorem at_tail {wr : World} {base n c : Nat} {ok : Nat → Prop} {ad : Addr} {x0 xs y : List S34} {k i q0 : Int} {A : Option Addr} (HO : Kd.R k34 34 wr base ok (.slice (some ad) n c) xs) (hA : A = (if c = k.toNat then (some ad) else ((some ad) : Option Addr).map (·.add (k.toNat * 3))))
  (hy : y = x0.drop k.toNat) (h : JInv x0 k xs i q0) (q : Int) (p0 : 0 ≤ q) (p1 : q < (y.length : Int)) (hq : i ≤ k + q) :
  ∃ ad', A = some ad' ∧ wr.cell? (ad'.add (q.toNat * 3)) = some (.int .i64 (rd_T34 y q).f0) ∧ wr.cell? ⟨(ad'.add (q.toNat * 3)).block, (ad'.add (q.toNat * 3)).off + 1, none⟩ = some (.int .i64 (rd_T34 y q).f1) ∧ wr.cell? ⟨(ad'.add (q.toNat * 3)).block, (ad'.add (q.toNat * 3)).off + 2, none⟩ = some (.string (rd_T34 y q).f2) := by
 obtain ⟨h1, h2, h3, h4, h5, h6, h7⟩ := h
 have hl : y.length = x0.length - k.toNat := by rw [hy, List.length_drop]
 obtain ⟨hn, hroom, hC⟩ := Kd.R_reads' HO
 have hd := Kd.C_drop (m := k.toNat) (c := c) hC (by omega) (by omega)
 have e : rd_T34 (xs.drop k.toNat) q = rd_T34 y q := by
  unfold rd_T34
  rw [List.getD_eq_getElem?_getD, List.getD_eq_getElem?_getD, List.getElem?_drop, hy, List.getElem?_drop, h7 _ (by omega)]
 have r := at_T34 hd q p0 (by rw [List.length_drop]; omega)
 rw [e] at r
 rw [hA]
 exact r
theorem ji_le {x0 xs y : List S34} {k i q j : Int} (h : JInv x0 k xs i q) (hy : y = x0.drop k.toNat) (hq : q < (y.length : Int)) (hj : IntKind.i64.wrap (q - 1) = j) : i ≤ k + j := by
 obtain ⟨h1, h2, h3, h4, h5, h6, h7⟩ := h
 have hl : y.length = x0.length - k.toNat := by rw [hy, List.length_drop]
 rw [i64_w] at hj
 have : wrap64 (q - 1) = q - 1 := by unfold wrap64; omega
 omega
/-! ### compact: function 24 -/
mutual
def compact.l0 : Nat → List (S34) → Int → Option ((List (S34)))
 | 0, _, _ => none
 | k + 1, x0, x3 => if x3 < (x0.length : Int) then (if 0 ≤ x3 then (if 0 ≤ (wrap64 (x3 - 1)) then (if (wrap64 (x3 - 1)) < (x0.length : Int) then (if (((rd_T34 x0 x3).f0) == ((rd_T34 x0 (wrap64 (x3 - 1))).f0) && (((rd_T34 x0 x3).f1) == ((rd_T34 x0 (wrap64 (x3 - 1))).f1) && ((((rd_T34 x0 x3).f2).toList) == (((rd_T34 x0 (wrap64 (x3 - 1))).f2).toList)))) = true then (if x3 ≤ (x0.length : Int) then (compact.l1 k x0 x3 (x0.drop (x3 : Int).toNat) 1) else (none)) else (compact.l0 k x0 (wrap64 (x3 + 1)))) else (none)) else (none)) else (none)) else (some x0)
def compact.l1 : Nat → List (S34) → Int → List (S34) → Int → Option ((List (S34)))
 | 0, _, _, _, _ => none
 | k + 1, x0, x3, x4, x5 => if x5 < (x4.length : Int) then (if 0 ≤ x5 then (if 0 ≤ (wrap64 (x5 - 1)) then (if (wrap64 (x5 - 1)) < (x4.length : Int) then (if (!(((rd_T34 x4 x5).f0) == ((rd_T34 x4 (wrap64 (x5 - 1))).f0)) || (!(((rd_T34 x4 x5).f1) == ((rd_T34 x4 (wrap64 (x5 - 1))).f1)) || (!((((rd_T34 x4 x5).f2).toList) == (((rd_T34 x4 (wrap64 (x5 - 1))).f2).toList))))) = true then (if 0 ≤ x3 then (if x3 < (x0.length : Int) then (compact.l1 k (x0.set (x3 : Int).toNat (⟨(rd_T34 x4 x5).f0, (rd_T34 x4 x5).f1, (rd_T34 x4 x5).f2⟩ : S34)) (wrap64 (x3 + 1)) x4 (wrap64 (x5 + 1))) else (none)) else (none)) else (compact.l1 k x0 x3 x4 (wrap64 (x5 + 1)))) else (none)) else (none)) else (none)) else (if 0 ≤ x3 then (if x3 ≤ (x0.length : Int) then (some (x0.take (x3 : Int).toNat)) else (none)) else (none))
end
def compact.f (k : Nat) (l0 : List (S34)) : Option ((List (S34))) := if (l0.length : Int) < 2 then (some l0) else (compact.l0 k l0 1)
set_option maxHeartbeats 8000000 in
set_option maxRecDepth 100000 in
theorem compact.calls (k : Nat) (P0_ : Nat → Prop) (u9000_ : Value) (l0 : List (S34)) (r : List (S34)) (w0 w : World) (hB : Below w0.heap.size w0 w) (ho0 : Kd.R k34 34 w w0.heap.size P0_ u9000_ l0) (h : compact.f k l0 = some r) :
  Calls Tryz.prog 24 #[u9000_] w fun e w' => ∃ v0_ : Value, e = .returned (v0_) ∧ Kd.R k34 34 w' w0.heap.size (fun k_ => (P0_ k_ ∨ w.heap.size ≤ k_)) v0_ r ∧ Below w0.heap.size w0 w' ∧ Kept w w' (fun k_ => P0_ k_) := by
 have hu34 := Tryz.underlying34
 have HO0 := mk0 (show Kd.R k34 34 w w0.heap.size (fun k_ => (P0_ k_ ∨ w.heap.size ≤ k_)) u9000_ l0 from Kd.R_mono ho0 (fun k_ hk => (.inl hk)))
 have HK := mk0 (Kept.refl w (fun k_ => P0_ k_))
 have HW0 := mk0 hB.size
 have HB := mk0 hB
 clear hB
 have H : (if (l0.length : Int) < 2 then (some l0) else (compact.l0 k l0 1)) = some r := h
 clear h
 by_cases c2 : (l0.length : Int) < 2
 ·rw [if_pos c2] at H
  have c2b0 : decide ((l0.length : Int) < 2) = true := decide_eq_true c2
  have c2b1 : decide (l0.length < 2) = true := decide_eq_true (by omega)
  clear c2
  obtain rfl := Option.some.inj H
  obtain ⟨Ao3, co3, eo3⟩ := Kd.R_slice HO0.out
  subst eo3
  go_enter Tryz.func24, Tryz.ntmps24
  go_wp2
  repeat (go_quiet (fail); try go_wp2)
  go_ret
  exact ⟨_, eoA, by (with_reducible repeat (first | refine rA ?_ | refine rN ?_ | refine rD ?_)); exact HO0.out, hbA, by repeat (first | (with_reducible first | exact HK.out | apply Kept.alloc | apply Kept.drewN | apply Kept.drew) | exact HK.out)⟩
 ·rw [if_neg c2] at H
  have c2b0 : decide ((l0.length : Int) < 2) = false := decide_eq_false c2
  have c2b1 : decide (l0.length < 2) = false := decide_eq_false (by omega)
  clear c2
  have H' := mk0 H
  clear H
  obtain ⟨Ao4, co4, eo4⟩ := Kd.R_slice HO0.out
  subst eo4
  go_enter Tryz.func24, Tryz.ntmps24
  go_wp2
  repeat (go_quiet (fail); try go_wp2)
  go_loopg [3] k (fun kq v3 w' => ∃ (x0_1 : List (S34)) (x3_1 : Int), v3 = .int .i64 x3_1 ∧ Aside0 (compact.l0 kq x0_1 x3_1 = some r) ∧ Aside0 (kq ≤ k) ∧ Aside0 (Kd.R k34 34 w' w0.heap.size (fun k_ => (P0_ k_ ∨ w.heap.size ≤ k_)) (.slice Ao4 l0.length co4) x0_1) ∧ Aside0 (Kept w w' (fun k_ => P0_ k_)) ∧ Aside0 (Below w0.heap.size w0 w'))
  case atStart => exact ⟨(l0), (1), rfA, H', ⟨Nat.le_refl _⟩, ⟨by (with_reducible repeat (first | refine rA ?_ | refine rN ?_ | refine rD ?_)); exact HO0.out⟩, ⟨by repeat (first | (with_reducible first | exact HK.out | apply Kept.alloc | apply Kept.drewN | apply Kept.drew) | exact HK.out)⟩, ⟨hbA⟩⟩
  case round =>
   clear H'
   try clear c2
   try clear c2b0
   try clear c2b1
   try clear p2
   obtain ⟨x0_1, x3_1, rfl, HA, HK1, HO_0, HK, HB⟩ := hrel
   have hl0_1 := (Kd.R_reads' HO_0.out).1
   rw [hl0_1] at HO_0
   (try simp only [hl0_1])
   cases gk with
   | zero => exact absurd HA.out (by simp [compact.l0])
   | succ k1 =>
    have H := HA.out
    clear HA
    simp only [compact.l0] at H
    by_cases c5 : x3_1 < (x0_1.length : Int)
    ·rw [if_pos c5] at H
     have c5b0 : decide (x3_1 < (x0_1.length : Int)) = true := decide_eq_true c5
     clear c5
     by_cases c6 : 0 ≤ x3_1
     ·rw [if_pos c6] at H
      have c6b0 : decide (0 ≤ x3_1) = true := decide_eq_true c6
      clear c6
      obtain ⟨ji7, hji7⟩ : ∃ j_ : Int, (wrap64 (x3_1 - 1)) = j_ := ⟨_, rfl⟩
      replace H : (if 0 ≤ (ji7) then (if (ji7) < (x0_1.length : Int) then (if (((rd_T34 x0_1 x3_1).f0) == ((rd_T34 x0_1 (ji7)).f0) && (((rd_T34 x0_1 x3_1).f1) == ((rd_T34 x0_1 (ji7)).f1) && ((((rd_T34 x0_1 x3_1).f2).toList) == (((rd_T34 x0_1 (ji7)).f2).toList)))) = true then (if x3_1 ≤ (x0_1.length : Int) then (compact.l1 k1 x0_1 x3_1 (x0_1.drop (x3_1 : Int).toNat) 1) else (none)) else (compact.l0 k1 x0_1 (wrap64 (x3_1 + 1)))) else (none)) else (none)) = some r := by first | (rw [hji7] at H; exact H) | (simp only [hji7] at H ⊢; exact H)
      have hji7w : (IntKind.i64.wrap (x3_1 - 1)) = ji7 := (i64_w _).trans hji7
      by_cases c8 : 0 ≤ (ji7)
      ·rw [if_pos c8] at H
       have c8b0 : decide (0 ≤ (ji7)) = true := decide_eq_true c8
       clear c8
       by_cases c9 : (ji7) < (x0_1.length : Int)
       ·rw [if_pos c9] at H
        have c9b0 : decide ((ji7) < (x0_1.length : Int)) = true := decide_eq_true c9
        clear c9
        by_cases c10 : (((rd_T34 x0_1 x3_1).f0) == ((rd_T34 x0_1 (ji7)).f0) && (((rd_T34 x0_1 x3_1).f1) == ((rd_T34 x0_1 (ji7)).f1) && ((((rd_T34 x0_1 x3_1).f2).toList) == (((rd_T34 x0_1 (ji7)).f2).toList)))) = true
        ·rw [if_pos c10] at H
         have c10b0 : (((rd_T34 x0_1 x3_1).f0) == ((rd_T34 x0_1 (ji7)).f0) && (((rd_T34 x0_1 x3_1).f1) == ((rd_T34 x0_1 (ji7)).f1) && ((((rd_T34 x0_1 x3_1).f2).toList) == (((rd_T34 x0_1 (ji7)).f2).toList)))) = true := c10
         (try (have c10b1 : decide (((rd_T34 x0_1 x3_1).f0) = ((rd_T34 x0_1 (ji7)).f0) && (((rd_T34 x0_1 x3_1).f1) == ((rd_T34 x0_1 (ji7)).f1) && ((((rd_T34 x0_1 x3_1).f2).toList) == (((rd_T34 x0_1 (ji7)).f2).toList)))) = true := by simpa using c10))
         (try (have c10b2 : (((rd_T34 x0_1 x3_1).f0) == ((rd_T34 x0_1 (ji7)).f0) && (((rd_T34 x0_1 x3_1).f1) == ((rd_T34 x0_1 (ji7)).f1) && ((((rd_T34 x0_1 x3_1).f2).toList) == (((rd_T34 x0_1 (ji7)).f2).toList)))) = true := by simpa using c10))
         clear c10
         have c11b0 := eq_true (dcA : 0 ≤ x3_1)
         by_cases c12 : x3_1 ≤ (x0_1.length : Int)
         ·rw [if_pos c12] at H
          have c12b0 := eq_true c12
          have c12b1 : decide (x3_1 ≤ (x0_1.length : Int)) = true := decide_eq_true c12
          clear c12
          obtain ⟨y119, hy119⟩ : ∃ y_ : List (S34), y_ = (x0_1.drop (x3_1 : Int).toNat) := ⟨_, rfl⟩
          replace H : (compact.l1 k1 x0_1 x3_1 y119 1) = some r := by first | (rw [hy119]; with_reducible exact H) | (have H2_ := (Option.bind_some _ _).symm.trans H; rw [hy119]; with_reducible exact H2_) | (have H2_ := (Option.bind_some _ _).symm.trans H; with_reducible exact H2_) | with_reducible exact H | (rw [hy119]; exact H) | exact H
          have Ny119 := mk0 hy119
          clear hy119
          have H' := mk0 H
          clear H
          have p117 : 0 ≤ (x3_1 : Int) := dcA
          have q117 : x3_1 < (x0_1.length : Int) := dcA
          obtain ⟨ad117, e117, hx117_0, hx117_1, hx117_2⟩ := at_T34 (Kd.R_reads' HO_0.out).2.2 x3_1 p117 q117
          cases e117
          replace p117 := eq_true p117
          replace q117 := eq_true q117
          have p118 : 0 ≤ ((ji7) : Int) := dcA
          have q118 : (ji7) < (x0_1.length : Int) := dcA
          obtain ⟨ad118, e118, hx118_0, hx118_1, hx118_2⟩ := at_T34 (Kd.R_reads' HO_0.out).2.2 (ji7) p118 q118
          obtain rfl : ad117 = ad118 := (by injection e118)
          replace p118 := eq_true p118
          replace q118 := eq_true q118
          have q13 : (x3_1 : Int) ≤ ((x0_1.length : Int) : Int) := dcA
          obtain ⟨i013, hi013, _, hsz13, _⟩ := info_parts info34
          have hroom13 : x0_1.length ≤ co4 := (Kd.R_reads' HO_0.out).2.1
          have hC13 : Kd.C k34 _ (some ad117) x0_1.length x0_1 := (Kd.R_reads' HO_0.out).2.2
          have q013 : (0 : Int) ≤ (x3_1 : Int) := dcA
          have hcut13 := cut_from (P := Tryz.prog) 25 34 .i64 Tryz.underlying25 hi013 3 hsz13 (some ad117) x0_1.length co4 x3_1 q013 q13
          have hr13 := Kd.C_drop (m := (x3_1 : Int).toNat) (c := co4) hC13 (by omega) hroom13
          obtain ⟨A13, hA13⟩ : ∃ A1, A1 = (if co4 = (x3_1 : Int).toNat then (some ad117) else ((some ad117) : Option Addr).map (·.add ((x3_1 : Int).toNat * 3))) := ⟨_, rfl⟩
          obtain ⟨c13, hc13⟩ : ∃ c1, c1 = co4 - (x3_1 : Int).toNat := ⟨_, rfl⟩
          have hy13 : y119.length = x0_1.length - (x3_1 : Int).toNat := (by rw [Ny119.out, List.length_drop] <;> omega)
          rw [show (x0_1).drop (x3_1 : Int).toNat = y119 from Ny119.out.symm] at hr13
          replace hr13 : Kd.C k34 _ A13 y119.length y119 := (by rw [hA13]; exact hr13)
          rw [← hy13, ← hA13, ← hc13] at hcut13
          have HR122 := mk0 hr13
          have HC122 := mk0 (show y119.length ≤ c13 from by rw [hy13, hc13]; exact Nat.sub_le_sub_right hroom13 _)
          clear hr13 hC13 hroom13 hi013 hsz13 hc13
          have KY13 := mk0 hy13
          have KA13 := mk0 hA13
          clear hy13 hA13
          have KL13 := mk0 (show (x3_1 : Int).toNat ≤ x0_1.length from by omega)
          replace q13 := eq_true q13
          go_wp2
          repeat (go_quiet (fail); try go_wp2)
          generalize Value.pointer (some (ad117.add (x3_1.toNat * 3))) = uq18
          generalize Value.pointer (some (ad117.add (ji7.toNat * 3))) = uq23
          go_loopg [3, 5] k1 (fun kq v3 v5 w' => ∃ (x0_2 : List (S34)) (x3_2 : Int) (x5_2 : Int), v3 = .int .i64 x3_2 ∧ v5 = .int .i64 x5_2 ∧ Aside0 (compact.l1 kq x0_2 x3_2 y119 x5_2 = some r) ∧ Aside0 (kq ≤ k1) ∧ Aside0 (Kd.R k34 34 w' w0.heap.size (fun k_ => (P0_ k_ ∨ w.heap.size ≤ k_)) (.slice (some ad117) x0_1.length co4) x0_2) ∧ Aside0 (Kept w w' (fun k_ => P0_ k_)) ∧ Aside0 (Below w0.heap.size w0 w') ∧ Aside0 (JInv x0_1 x3_1 x0_2 x3_2 x5_2))
          case atStart => exact ⟨(x0_1), (x3_1), (1), rfA, rfA, H', ⟨Nat.le_refl _⟩, ⟨by (try simp only [hl0_1]); (with_reducible repeat (first | refine rA ?_ | refine rN ?_ | refine rD ?_)); exact HO_0.out⟩, ⟨by repeat (first | (with_reducible first | exact HK.out | apply Kept.alloc | apply Kept.drewN | apply Kept.drew) | exact HK.out)⟩, ⟨hbA⟩, ⟨JInv.start q013 (Kd.R_reads' HO_0.out).2.2.2.1⟩⟩
          case round =>
           clear H'
           try clear c1
           try clear p1
           try clear q1
           try clear hx1
           try clear c2
           try clear c2b0
           try clear c2b1
           try clear p2
           try clear c5
           try clear c5b0
           try clear c6
           try clear c6b0
           try clear p6
           try clear c8
           try clear c8b0
           try clear c9
           try clear c9b0
           try clear c10
           try clear c10b0
           try clear c10b1
           try clear c10b2
           try clear c11
           try clear c11b0
           try clear p11
           try clear q11
           try clear hx11
           try clear c12
           try clear c12b0
           try clear c12b1
           try clear c13
           try clear q13
           try clear hx117_0
           try clear hx117_1
           try clear hx117_2
           try clear hx118_0
           try clear hx118_1
           try clear hx118_2
           try clear p117
           try clear p118
           try clear p2
           try clear q013
           try clear q117
           try clear q118
           try clear q13
           obtain ⟨x0_2, x3_2, x5_2, rfl, rfl, HA, HK2, HO_0, HK, HB, HJ⟩ := hrel
           have hl0_2 := (Kd.R_reads' HO_0.out).1
           rw [hl0_2] at HO_0
           (try simp only [hl0_2])
           cases gk with
           | zero => exact absurd HA.out (by simp [compact.l1])
           | succ k2 =>
            have H := HA.out
            clear HA
            simp only [compact.l1] at H
            by_cases c14 : x5_2 < (y119.length : Int)
            ·rw [if_pos c14] at H
             have c14b0 : decide (x5_2 < (y119.length : Int)) = true := decide_eq_true c14
             clear c14
             by_cases c15 : 0 ≤ x5_2
             ·rw [if_pos c15] at H
              have c15b0 : decide (0 ≤ x5_2) = true := decide_eq_true c15
              clear c15
              obtain ⟨ji16, hji16⟩ : ∃ j_ : Int, (wrap64 (x5_2 - 1)) = j_ := ⟨_, rfl⟩
              replace H : (if 0 ≤ (ji16) then (if (ji16) < (y119.length : Int) then (if (!(((rd_T34 y119 x5_2).f0) == ((rd_T34 y119 (ji16)).f0)) || (!(((rd_T34 y119 x5_2).f1) == ((rd_T34 y119 (ji16)).f1)) || (!((((rd_T34 y119 x5_2).f2).toList) == (((rd_T34 y119 (ji16)).f2).toList))))) = true then (if 0 ≤ x3_2 then (if x3_2 < (x0_2.length : Int) then (compact.l1 k2 (x0_2.set (x3_2 : Int).toNat (⟨(rd_T34 y119 x5_2).f0, (rd_T34 y119 x5_2).f1, (rd_T34 y119 x5_2).f2⟩ : S34)) (wrap64 (x3_2 + 1)) y119 (wrap64 (x5_2 + 1))) else (none)) else (none)) else (compact.l1 k2 x0_2 x3_2 y119 (wrap64 (x5_2 + 1)))) else (none)) else (none)) = some r := by first | (rw [hji16] at H; exact H) | (simp only [hji16] at H ⊢; exact H)
              have hji16w : (IntKind.i64.wrap (x5_2 - 1)) = ji16 := (i64_w _).trans hji16
              by_cases c17 : 0 ≤ (ji16)
              ·rw [if_pos c17] at H
               have c17b0 : decide (0 ≤ (ji16)) = true := decide_eq_true c17
               clear c17
               by_cases c18 : (ji16) < (y119.length : Int)
               ·rw [if_pos c18] at H
                have c18b0 : decide ((ji16) < (y119.length : Int)) = true := decide_eq_true c18
                clear c18
                by_cases c19 : (!(((rd_T34 y119 x5_2).f0) == ((rd_T34 y119 (ji16)).f0)) || (!(((rd_T34 y119 x5_2).f1) == ((rd_T34 y119 (ji16)).f1)) || (!((((rd_T34 y119 x5_2).f2).toList) == (((rd_T34 y119 (ji16)).f2).toList))))) = true
                ·rw [if_pos c19] at H
                 have c19b0 : (!(((rd_T34 y119 x5_2).f0) == ((rd_T34 y119 (ji16)).f0)) || (!(((rd_T34 y119 x5_2).f1) == ((rd_T34 y119 (ji16)).f1)) || (!((((rd_T34 y119 x5_2).f2).toList) == (((rd_T34 y119 (ji16)).f2).toList))))) = true := c19
                 clear c19
                 by_cases c20 : 0 ≤ x3_2
                 ·rw [if_pos c20] at H
                  have c20b0 : decide (0 ≤ x3_2) = true := decide_eq_true c20
                  clear c20
                  by_cases c21 : x3_2 < (x0_2.length : Int)
                  ·rw [if_pos c21] at H
                   have c21b0 : decide (x3_2 < (x0_2.length : Int)) = true := decide_eq_true c21
                   clear c21
                   obtain ⟨y126, hy126⟩ : ∃ y_ : List (S34), y_ = (x0_2.set (x3_2 : Int).toNat (⟨(rd_T34 y119 x5_2).f0, (rd_T34 y119 x5_2).f1, (rd_T34 y119 x5_2).f2⟩ : S34)) := ⟨_, rfl⟩
                   replace H : (compact.l1 k2 y126 (wrap64 (x3_2 + 1)) y119 (wrap64 (x5_2 + 1))) = some r := by first | (rw [hy126]; with_reducible exact H) | (have H2_ := (Option.bind_some _ _).symm.trans H; rw [hy126]; with_reducible exact H2_) | (have H2_ := (Option.bind_some _ _).symm.trans H; with_reducible exact H2_) | with_reducible exact H | (rw [hy126]; exact H) | exact H
                   have Ny126 := mk0 hy126
                   clear hy126
                   have H' := mk0 H
                   clear H
                   have p123 : 0 ≤ (x5_2 : Int) := dcA
                   have q123 : x5_2 < (y119.length : Int) := dcA
                   obtain ⟨ad123, e123, hx123_0, hx123_1, hx123_2⟩ := at_tail HO_0.out KA13.out Ny119.out HJ.out x5_2 p123 q123 (by have := HJ.out.2.2.1; omega)
                   cases e123
                   replace p123 := eq_true p123
                   replace q123 := eq_true q123
                   have p124 : 0 ≤ ((ji16) : Int) := dcA
                   have q124 : (ji16) < (y119.length : Int) := dcA
                   obtain ⟨ad124, e124, hx124_0, hx124_1, hx124_2⟩ := at_tail HO_0.out KA13.out Ny119.out HJ.out (ji16) p124 q124 (ji_le HJ.out Ny119.out (of_decide_eq_true c14b0) hji16w)
                   obtain rfl : ad123 = ad124 := (by injection e124)
                   replace p124 := eq_true p124
                   replace q124 := eq_true q124
                   have p125 : 0 ≤ (x5_2 : Int) := dcA
                   have q125 : x5_2 < (y119.length : Int) := dcA
                   obtain ⟨ad125, e125, hx125_0, hx125_1, hx125_2⟩ := at_tail HO_0.out KA13.out Ny119.out HJ.out x5_2 p125 q125 (by have := HJ.out.2.2.1; omega)
                   obtain rfl : ad123 = ad125 := (by injection e125)
                   replace p125 := eq_true p125
                   replace q125 := eq_true q125
                   have p22 : 0 ≤ (x3_2 : Int) := dcA
                   have q22 : (x3_2 : Int) < ((x0_2.length : Int) : Int) := dcA
                   obtain ⟨go22, co22, eo22, gb22, gl22, cl22, HG22⟩ := Kd.R_form HO_0.out (by omega)
                   (first | cases eo22 | (injection eo22 with ea_ en_ ec_; (first | subst ea_ | (injection ea_ with ea_; subst ea_)); subst ec_; clear en_))
                   have GB22 := mk0 gb22
                   have GG22 := mk0 HG22
                   clear gb22 gl22 HG22
                   have HMgo22 := mk0 (show (P0_ go22 ∨ w.heap.size ≤ go22) from (HO_0.out.1 _ rfl))
                   (first | simp only [add_plain] at hx117_0 | skip)
                   (first | simp only [add_plain] at hx117_1 | skip)
                   (first | simp only [add_plain] at hx117_2 | skip)
                   (first | simp only [add_plain] at hx118_0 | skip)
                   (first | simp only [add_plain] at hx118_1 | skip)
                   (first | simp only [add_plain] at hx118_2 | skip)
                   obtain ⟨ce22, hcl22, hM22, hcc22, hfr22⟩ := Kd.R_elem HO_0.out z34 (x3_2 : Int) p22 q22
                   obtain rfl := k34_openM hM22
                   have hx22_0 : wr.cell? ⟨go22, (x3_2 : Int).toNat * 3, none⟩ = some (.int .i64 ((rd_T34 x0_2 x3_2).f0)) := hcc22 0 _ rfl
                   have hx22_1 : wr.cell? ⟨go22, (x3_2 : Int).toNat * 3 + 1, none⟩ = some (.int .i64 ((rd_T34 x0_2 x3_2).f1)) := hcc22 1 _ rfl
                   have hx22_2 : wr.cell? ⟨go22, (x3_2 : Int).toNat * 3 + 2, none⟩ = some (.string ((rd_T34 x0_2 x3_2).f2)) := hcc22 2 _ rfl
                   have hf22_0 : wr.frozen? ⟨go22, (x3_2 : Int).toNat * 3, none⟩ = false := hfr22 0
                   have hf22_1 : wr.frozen? ⟨go22, (x3_2 : Int).toNat * 3 + 1, none⟩ = false := hfr22 1
                   have hf22_2 : wr.frozen? ⟨go22, (x3_2 : Int).toNat * 3 + 2, none⟩ = false := hfr22 2
                   clear hcl22 hcc22 hfr22 hM22
                   replace p22 := eq_true p22
                   replace q22 := eq_true q22
                   have HX23 := mk0 (show Kd.R k34 34 wr w0.heap.size (fun k_ => (P0_ k_ ∨ w.heap.size ≤ k_)) (.slice (some ⟨go22, 0, none⟩) x0_2.length co4) x0_2 from (by (with_reducible repeat (first | refine rA ?_ | refine rN ?_ | refine rD ?_)); exact HO_0.out))
                   obtain ⟨ce23, hcl23, hM23, hcc23, hfr23⟩ := Kd.R_elem HX23.out z34 (x3_2 : Int) (dcA) (by have h_ : (x3_2 : Int) < ((x0_2.length : Int) : Int) := dcA; first | exact h_ | (have e_ := (Kd.R_reads' HO_0.out).1; omega) | simpa using h_)
                   obtain rfl := k34_openM hM23
                   have HP23 := Kd.R_seg HX23.out (x3_2 : Int) (dcA) (by have h_ : (x3_2 : Int) < ((x0_2.length : Int) : Int) := dcA; first | exact h_ | (have e_ := (Kd.R_reads' HO_0.out).1; omega) | simpa using h_) (seg := [.int .i64 ((rd_T34 y119 x5_2).f0), .int .i64 ((rd_T34 y119 x5_2).f1), .string ((rd_T34 y119 x5_2).f2)]) (j := 0) hcl23 hcc23 (show 3 ≤ 3 from by decide) (x' := (⟨(rd_T34 y119 x5_2).f0, (rd_T34 y119 x5_2).f1, (rd_T34 y119 x5_2).f2⟩ : S34)) (k34_mkM _ _ _ (⟨(rd_T34 y119 x5_2).f0, (rd_T34 y119 x5_2).f1, (rd_T34 y119 x5_2).f2⟩ : S34) ) (fun _ hk => hk)
                   have hx23_0 := hcc23 0 _ rfl
                   (try simp only [show (k34).sz = 3 from rfl, Nat.mul_one, Nat.add_zero] at hx23_0)
                   have hf23_0 := hfr23 0
                   (try simp only [show (k34).sz = 3 from rfl, Nat.mul_one, Nat.add_zero] at hf23_0)
                   have hx23_1 := hcc23 1 _ rfl
                   (try simp only [show (k34).sz = 3 from rfl, Nat.mul_one, Nat.add_zero] at hx23_1)
                   have hf23_1 := hfr23 1
                   (try simp only [show (k34).sz = 3 from rfl, Nat.mul_one, Nat.add_zero] at hf23_1)
                   have hx23_2 := hcc23 2 _ rfl
                   (try simp only [show (k34).sz = 3 from rfl, Nat.mul_one, Nat.add_zero] at hx23_2)
                   have hf23_2 := hfr23 2
                   (try simp only [show (k34).sz = 3 from rfl, Nat.mul_one, Nat.add_zero] at hf23_2)
                   clear hcl23 hcc23 hfr23 hM23
                   go_wp2_with (first | ((with_reducible refine gate_store (t := 34) (p := 51) rfl ?_); (try (rw [drewN_self wr]; generalize hq_ : World.drewN wr _ = wr; have n0_ := mk0 (Kd.R_at hq_ HO_0.out); have n1_ := mk0 (kept_at hq_ HK.out); have n2_ := mk0 (below_at hq_ HB.out); clear hq_ HO_0 HK HB; have HO_0 := n0_; have HK := n1_; have HB := n2_; clear n0_ n1_ n2_; (try (have HX23 := mk0 (show Kd.R k34 34 wr w0.heap.size (fun k_ => (P0_ k_ ∨ w.heap.size ≤ k_)) (.slice (some ⟨go22, 0, none⟩) x0_2.length co4) x0_2 from (by (with_reducible repeat (first | refine rA ?_ | refine rN ?_ | refine rD ?_)); exact HO_0.out)))); (try (obtain ⟨ce23, hcl23, hM23, hcc23, hfr23⟩ := Kd.R_elem HX23.out z34 (x3_2 : Int) (dcA) (by have h_ : (x3_2 : Int) < ((x0_2.length : Int) : Int) := dcA; first | exact h_ | (have e_ := (Kd.R_reads' HO_0.out).1; omega) | simpa using h_))); (try (obtain rfl := k34_openM hM23)); (try (have HP23 := Kd.R_seg HX23.out (x3_2 : Int) (dcA) (by have h_ : (x3_2 : Int) < ((x0_2.length : Int) : Int) := dcA; first | exact h_ | (have e_ := (Kd.R_reads' HO_0.out).1; omega) | simpa using h_) (seg := [.int .i64 ((rd_T34 y119 x5_2).f0), .int .i64 ((rd_T34 y119 x5_2).f1), .string ((rd_T34 y119 x5_2).f2)]) (j := 0) hcl23 hcc23 (show 3 ≤ 3 from by decide) (x' := (⟨(rd_T34 y119 x5_2).f0, (rd_T34 y119 x5_2).f1, (rd_T34 y119 x5_2).f2⟩ : S34)) (k34_mkM _ _ _ (⟨(rd_T34 y119 x5_2).f0, (rd_T34 y119 x5_2).f1, (rd_T34 y119 x5_2).f2⟩ : S34) ) (fun _ hk => hk))); (try (have hx23_0 := hcc23 0 _ rfl)); (try (try simp only [show (k34).sz = 3 from rfl, Nat.mul_one, Nat.add_zero] at hx23_0)); (try (have hf23_0 := hfr23 0)); (try (try simp only [show (k34).sz = 3 from rfl, Nat.mul_one, Nat.add_zero] at hf23_0)); (try (have hx23_1 := hcc23 1 _ rfl)); (try (try simp only [show (k34).sz = 3 from rfl, Nat.mul_one, Nat.add_zero] at hx23_1)); (try (have hf23_1 := hfr23 1)); (try (try simp only [show (k34).sz = 3 from rfl, Nat.mul_one, Nat.add_zero] at hf23_1)); (try (have hx23_2 := hcc23 2 _ rfl)); (try (try simp only [show (k34).sz = 3 from rfl, Nat.mul_one, Nat.add_zero] at hx23_2)); (try (have hf23_2 := hfr23 2)); (try (try simp only [show (k34).sz = 3 from rfl, Nat.mul_one, Nat.add_zero] at hf23_2)); (try (clear hcl23 hcc23 hfr23 hM23)))); refine store_event (t := 34) (p := 51) (v := ?vo_w24) (w1 := (((wr.setCell ⟨go22, (x3_2 : Int).toNat * 3, none⟩ (.int .i64 ((rd_T34 y119 x5_2).f0))).setCell ⟨go22, (x3_2 : Int).toNat * 3 + 1, none⟩ (.int .i64 ((rd_T34 y119 x5_2).f1))).setCell ⟨go22, (x3_2 : Int).toNat * 3 + 2, none⟩ (.string ((rd_T34 y119 x5_2).f2)))) ?hg ?ho ?hn ?hr ?_; (case ho => rfl); (case hg => rfl); (case hn => rfl); (case hr => first | (go_simp; done) | (go_simp; rfl)); intro w24 hw; have hg : wr.grownBy w24 (some go22) := (by rw [hw]; exact HP23.2); have hp_ : Kd.R k34 34 w24 w0.heap.size (fun k_ => (P0_ k_ ∨ w.heap.size ≤ k_)) (.slice (some ⟨go22, 0, none⟩) x0_2.length co4) y126 := (by rw [hw, Ny126.out]; exact HP23.1); clear HP23; have n0_ := mk0 hp_; have n1_ := mk0 ((by rw [hw]; exact below_set (below_set (below_set (HB.out) GB22.out) GB22.out) GB22.out : Below w0.heap.size w0 w24)); have n2_ := mk0 (Kept.of_grown (S := (fun k_ => P0_ k_)) hg (by repeat (first | (with_reducible first | exact HK.out | apply Kept.alloc | apply Kept.drewN | apply Kept.drew) | exact HK.out)) (fun k_ e_ => (HO_0.out.1 k_ e_))); clear HO_0; clear HB; clear HK; have HO_0 := n0_; have HB := n1_; have HK := n2_; clear n0_ n1_ n2_; clear hg hw hp_))
                   repeat (go_quiet (first | ((with_reducible refine gate_store (t := 34) (p := 51) rfl ?_); (try (rw [drewN_self wr]; generalize hq_ : World.drewN wr _ = wr; have n0_ := mk0 (Kd.R_at hq_ HO_0.out); have n1_ := mk0 (kept_at hq_ HK.out); have n2_ := mk0 (below_at hq_ HB.out); clear hq_ HO_0 HK HB; have HO_0 := n0_; have HK := n1_; have HB := n2_; clear n0_ n1_ n2_; (try (have HX23 := mk0 (show Kd.R k34 34 wr w0.heap.size (fun k_ => (P0_ k_ ∨ w.heap.size ≤ k_)) (.slice (some ⟨go22, 0, none⟩) x0_2.length co4) x0_2 from (by (with_reducible repeat (first | refine rA ?_ | refine rN ?_ | refine rD ?_)); exact HO_0.out)))); (try (obtain ⟨ce23, hcl23, hM23, hcc23, hfr23⟩ := Kd.R_elem HX23.out z34 (x3_2 : Int) (dcA) (by have h_ : (x3_2 : Int) < ((x0_2.length : Int) : Int) := dcA; first | exact h_ | (have e_ := (Kd.R_reads' HO_0.out).1; omega) | simpa using h_))); (try (obtain rfl := k34_openM hM23)); (try (have HP23 := Kd.R_seg HX23.out (x3_2 : Int) (dcA) (by have h_ : (x3_2 : Int) < ((x0_2.length : Int) : Int) := dcA; first | exact h_ | (have e_ := (Kd.R_reads' HO_0.out).1; omega) | simpa using h_) (seg := [.int .i64 ((rd_T34 y119 x5_2).f0), .int .i64 ((rd_T34 y119 x5_2).f1), .string ((rd_T34 y119 x5_2).f2)]) (j := 0) hcl23 hcc23 (show 3 ≤ 3 from by decide) (x' := (⟨(rd_T34 y119 x5_2).f0, (rd_T34 y119 x5_2).f1, (rd_T34 y119 x5_2).f2⟩ : S34)) (k34_mkM _ _ _ (⟨(rd_T34 y119 x5_2).f0, (rd_T34 y119 x5_2).f1, (rd_T34 y119 x5_2).f2⟩ : S34) ) (fun _ hk => hk))); (try (have hx23_0 := hcc23 0 _ rfl)); (try (try simp only [show (k34).sz = 3 from rfl, Nat.mul_one, Nat.add_zero] at hx23_0)); (try (have hf23_0 := hfr23 0)); (try (try simp only [show (k34).sz = 3 from rfl, Nat.mul_one, Nat.add_zero] at hf23_0)); (try (have hx23_1 := hcc23 1 _ rfl)); (try (try simp only [show (k34).sz = 3 from rfl, Nat.mul_one, Nat.add_zero] at hx23_1)); (try (have hf23_1 := hfr23 1)); (try (try simp only [show (k34).sz = 3 from rfl, Nat.mul_one, Nat.add_zero] at hf23_1)); (try (have hx23_2 := hcc23 2 _ rfl)); (try (try simp only [show (k34).sz = 3 from rfl, Nat.mul_one, Nat.add_zero] at hx23_2)); (try (have hf23_2 := hfr23 2)); (try (try simp only [show (k34).sz = 3 from rfl, Nat.mul_one, Nat.add_zero] at hf23_2)); (try (clear hcl23 hcc23 hfr23 hM23)))); refine store_event (t := 34) (p := 51) (v := ?vo_w24) (w1 := (((wr.setCell ⟨go22, (x3_2 : Int).toNat * 3, none⟩ (.int .i64 ((rd_T34 y119 x5_2).f0))).setCell ⟨go22, (x3_2 : Int).toNat * 3 + 1, none⟩ (.int .i64 ((rd_T34 y119 x5_2).f1))).setCell ⟨go22, (x3_2 : Int).toNat * 3 + 2, none⟩ (.string ((rd_T34 y119 x5_2).f2)))) ?hg ?ho ?hn ?hr ?_; (case ho => rfl); (case hg => rfl); (case hn => rfl); (case hr => first | (go_simp; done) | (go_simp; rfl)); intro w24 hw; have hg : wr.grownBy w24 (some go22) := (by rw [hw]; exact HP23.2); have hp_ : Kd.R k34 34 w24 w0.heap.size (fun k_ => (P0_ k_ ∨ w.heap.size ≤ k_)) (.slice (some ⟨go22, 0, none⟩) x0_2.length co4) y126 := (by rw [hw, Ny126.out]; exact HP23.1); clear HP23; have n0_ := mk0 hp_; have n1_ := mk0 ((by rw [hw]; exact below_set (below_set (below_set (HB.out) GB22.out) GB22.out) GB22.out : Below w0.heap.size w0 w24)); have n2_ := mk0 (Kept.of_grown (S := (fun k_ => P0_ k_)) hg (by repeat (first | (with_reducible first | exact HK.out | apply Kept.alloc | apply Kept.drewN | apply Kept.drew) | exact HK.out)) (fun k_ e_ => (HO_0.out.1 k_ e_))); clear HO_0; clear HB; clear HK; have HO_0 := n0_; have HB := n1_; have HK := n2_; clear n0_ n1_ n2_; clear hg hw hp_)); try go_wp2_with (first | ((with_reducible refine gate_store (t := 34) (p := 51) rfl ?_); (try (rw [drewN_self wr]; generalize hq_ : World.drewN wr _ = wr; have n0_ := mk0 (Kd.R_at hq_ HO_0.out); have n1_ := mk0 (kept_at hq_ HK.out); have n2_ := mk0 (below_at hq_ HB.out); clear hq_ HO_0 HK HB; have HO_0 := n0_; have HK := n1_; have HB := n2_; clear n0_ n1_ n2_; (try (have HX23 := mk0 (show Kd.R k34 34 wr w0.heap.size (fun k_ => (P0_ k_ ∨ w.heap.size ≤ k_)) (.slice (some ⟨go22, 0, none⟩) x0_2.length co4) x0_2 from (by (with_reducible repeat (first | refine rA ?_ | refine rN ?_ | refine rD ?_)); exact HO_0.out)))); (try (obtain ⟨ce23, hcl23, hM23, hcc23, hfr23⟩ := Kd.R_elem HX23.out z34 (x3_2 : Int) (dcA) (by have h_ : (x3_2 : Int) < ((x0_2.length : Int) : Int) := dcA; first | exact h_ | (have e_ := (Kd.R_reads' HO_0.out).1; omega) | simpa using h_))); (try (obtain rfl := k34_openM hM23)); (try (have HP23 := Kd.R_seg HX23.out (x3_2 : Int) (dcA) (by have h_ : (x3_2 : Int) < ((x0_2.length : Int) : Int) := dcA; first | exact h_ | (have e_ := (Kd.R_reads' HO_0.out).1; omega) | simpa using h_) (seg := [.int .i64 ((rd_T34 y119 x5_2).f0), .int .i64 ((rd_T34 y119 x5_2).f1), .string ((rd_T34 y119 x5_2).f2)]) (j := 0) hcl23 hcc23 (show 3 ≤ 3 from by decide) (x' := (⟨(rd_T34 y119 x5_2).f0, (rd_T34 y119 x5_2).f1, (rd_T34 y119 x5_2).f2⟩ : S34)) (k34_mkM _ _ _ (⟨(rd_T34 y119 x5_2).f0, (rd_T34 y119 x5_2).f1, (rd_T34 y119 x5_2).f2⟩ : S34) ) (fun _ hk => hk))); (try (have hx23_0 := hcc23 0 _ rfl)); (try (try simp only [show (k34).sz = 3 from rfl, Nat.mul_one, Nat.add_zero] at hx23_0)); (try (have hf23_0 := hfr23 0)); (try (try simp only [show (k34).sz = 3 from rfl, Nat.mul_one, Nat.add_zero] at hf23_0)); (try (have hx23_1 := hcc23 1 _ rfl)); (try (try simp only [show (k34).sz = 3 from rfl, Nat.mul_one, Nat.add_zero] at hx23_1)); (try (have hf23_1 := hfr23 1)); (try (try simp only [show (k34).sz = 3 from rfl, Nat.mul_one, Nat.add_zero] at hf23_1)); (try (have hx23_2 := hcc23 2 _ rfl)); (try (try simp only [show (k34).sz = 3 from rfl, Nat.mul_one, Nat.add_zero] at hx23_2)); (try (have hf23_2 := hfr23 2)); (try (try simp only [show (k34).sz = 3 from rfl, Nat.mul_one, Nat.add_zero] at hf23_2)); (try (clear hcl23 hcc23 hfr23 hM23)))); refine store_event (t := 34) (p := 51) (v := ?vo_w24) (w1 := (((wr.setCell ⟨go22, (x3_2 : Int).toNat * 3, none⟩ (.int .i64 ((rd_T34 y119 x5_2).f0))).setCell ⟨go22, (x3_2 : Int).toNat * 3 + 1, none⟩ (.int .i64 ((rd_T34 y119 x5_2).f1))).setCell ⟨go22, (x3_2 : Int).toNat * 3 + 2, none⟩ (.string ((rd_T34 y119 x5_2).f2)))) ?hg ?ho ?hn ?hr ?_; (case ho => rfl); (case hg => rfl); (case hn => rfl); (case hr => first | (go_simp; done) | (go_simp; rfl)); intro w24 hw; have hg : wr.grownBy w24 (some go22) := (by rw [hw]; exact HP23.2); have hp_ : Kd.R k34 34 w24 w0.heap.size (fun k_ => (P0_ k_ ∨ w.heap.size ≤ k_)) (.slice (some ⟨go22, 0, none⟩) x0_2.length co4) y126 := (by rw [hw, Ny126.out]; exact HP23.1); clear HP23; have n0_ := mk0 hp_; have n1_ := mk0 ((by rw [hw]; exact below_set (below_set (below_set (HB.out) GB22.out) GB22.out) GB22.out : Below w0.heap.size w0 w24)); have n2_ := mk0 (Kept.of_grown (S := (fun k_ => P0_ k_)) hg (by repeat (first | (with_reducible first | exact HK.out | apply Kept.alloc | apply Kept.drewN | apply Kept.drew) | exact HK.out)) (fun k_ e_ => (HO_0.out.1 k_ e_))); clear HO_0; clear HB; clear HK; have HO_0 := n0_; have HB := n1_; have HK := n2_; clear n0_ n1_ n2_; clear hg hw hp_)))
                   (try simp only [← hl0_2])
                   go_roundg k2
                   case measure => have := HK1.out; have := HK2.out; omega
                   case rel => exact ⟨(y126), (wrap64 (x3_2 + 1)), (wrap64 (x5_2 + 1)), rfA, rfA, H', ⟨by have := HK1.out; have := HK2.out; omega⟩, ⟨by (try simp only [hl0_1]); (try simp only [hl0_2]); (with_reducible repeat (first | refine rA ?_ | refine rN ?_ | refine rD ?_)); exact HO_0.out⟩, ⟨by repeat (first | (with_reducible first | exact HK.out | apply Kept.alloc | apply Kept.drewN | apply Kept.drew) | exact HK.out)⟩, ⟨hbA⟩, ⟨HJ.out.keep Ny119.out (of_decide_eq_true c14b0) Ny126.out⟩⟩
                  ·rw [if_neg c21] at H
                   exact absurd H (by simp)
                 ·rw [if_neg c20] at H
                  exact absurd H (by simp)
                ·rw [if_neg c19] at H
                 have c19b0 : (!(((rd_T34 y119 x5_2).f0) == ((rd_T34 y119 (ji16)).f0)) || (!(((rd_T34 y119 x5_2).f1) == ((rd_T34 y119 (ji16)).f1)) || (!((((rd_T34 y119 x5_2).f2).toList) == (((rd_T34 y119 (ji16)).f2).toList))))) = false := by simpa using c19
                 clear c19
                 have H' := mk0 H
                 clear H
                 have p123 : 0 ≤ (x5_2 : Int) := dcA
                 have q123 : x5_2 < (y119.length : Int) := dcA
                 obtain ⟨ad123, e123, hx123_0, hx123_1, hx123_2⟩ := at_tail HO_0.out KA13.out Ny119.out HJ.out x5_2 p123 q123 (by have := HJ.out.2.2.1; omega)
                 cases e123
                 replace p123 := eq_true p123
                 replace q123 := eq_true q123
                 have p124 : 0 ≤ ((ji16) : Int) := dcA
                 have q124 : (ji16) < (y119.length : Int) := dcA
                 obtain ⟨ad124, e124, hx124_0, hx124_1, hx124_2⟩ := at_tail HO_0.out KA13.out Ny119.out HJ.out (ji16) p124 q124 (ji_le HJ.out Ny119.out (of_decide_eq_true c14b0) hji16w)
                 obtain rfl : ad123 = ad124 := (by injection e124)
                 replace p124 := eq_true p124
                 replace q124 := eq_true q124
                 go_wp2
                 repeat (go_quiet (fail); try go_wp2)
                 (try simp only [← hl0_2])
                 go_roundg k2
                 case measure => have := HK1.out; have := HK2.out; omega
                 case rel => exact ⟨(x0_2), (x3_2), (wrap64 (x5_2 + 1)), rfA, rfA, H', ⟨by have := HK1.out; have := HK2.out; omega⟩, ⟨by (try simp only [hl0_1]); (try simp only [hl0_2]); (with_reducible repeat (first | refine rA ?_ | refine rN ?_ | refine rD ?_)); exact HO_0.out⟩, ⟨by repeat (first | (with_reducible first | exact HK.out | apply Kept.alloc | apply Kept.drewN | apply Kept.drew) | exact HK.out)⟩, ⟨hbA⟩, ⟨HJ.out.skip Ny119.out (of_decide_eq_true c14b0)⟩⟩
               ·rw [if_neg c18] at H
                exact absurd H (by simp)
              ·rw [if_neg c17] at H
               exact absurd H (by simp)
             ·rw [if_neg c15] at H
              exact absurd H (by simp)
            ·rw [if_neg c14] at H
             have c14b0 : decide (x5_2 < (y119.length : Int)) = false := decide_eq_false c14
             clear c14
             by_cases c25 : 0 ≤ x3_2
             ·rw [if_pos c25] at H
              have c25b0 := eq_true c25
              have c25b1 : decide (0 ≤ x3_2) = true := decide_eq_true c25
              clear c25
              by_cases c26 : x3_2 ≤ (x0_2.length : Int)
              ·rw [if_pos c26] at H
               have c26b0 := eq_true c26
               have c26b1 : decide (x3_2 ≤ (x0_2.length : Int)) = true := decide_eq_true c26
               clear c26
               obtain ⟨y127, hy127⟩ : ∃ y_ : List (S34), y_ = (x0_2.drop (x3_2 : Int).toNat) := ⟨_, rfl⟩
               replace H : (some (x0_2.take (x3_2 : Int).toNat)) = some r := by first | (rw [hy127]; with_reducible exact H) | (have H2_ := (Option.bind_some _ _).symm.trans H; rw [hy127]; with_reducible exact H2_) | (have H2_ := (Option.bind_some _ _).symm.trans H; with_reducible exact H2_) | with_reducible exact H | (rw [hy127]; exact H) | exact H
               have Ny127 := mk0 hy127
               clear hy127
               have c27b0 := eq_true (dcA : x3_2 ≤ (x0_2.length : Int))
               obtain ⟨y131, hy131⟩ : ∃ y_ : List (S34), y_ = (x0_2.take (x3_2 : Int).toNat) := ⟨_, rfl⟩
               replace H : (some y131) = some r := by first | (rw [hy131]; with_reducible exact H) | (have H2_ := (Option.bind_some _ _).symm.trans H; rw [hy131]; with_reducible exact H2_) | (have H2_ := (Option.bind_some _ _).symm.trans H; with_reducible exact H2_) | with_reducible exact H | (rw [hy131]; exact H) | exact H
               have Ny131 := mk0 hy131
               clear hy131
               obtain rfl := Option.some.inj H
               have q28 : (x3_2 : Int) ≤ ((x0_2.length : Int) : Int) := dcA
               obtain ⟨i028, hi028, _, hsz28, _⟩ := info_parts info34
               have hroom28 : x0_2.length ≤ co4 := (Kd.R_reads' HO_0.out).2.1
               have hC28 : Kd.C k34 _ (some ad117) x0_2.length x0_2 := (Kd.R_reads' HO_0.out).2.2
               have q028 : (0 : Int) ≤ (x3_2 : Int) := dcA
               have hcut28 := cut_from (P := Tryz.prog) 25 34 .i64 Tryz.underlying25 hi028 3 hsz28 (some ad117) x0_2.length co4 x3_2 q028 q28
               have hr28 := Kd.C_drop (m := (x3_2 : Int).toNat) (c := co4) hC28 (by omega) hroom28
               obtain ⟨A28, hA28⟩ : ∃ A1, A1 = (if co4 = (x3_2 : Int).toNat then (some ad117) else ((some ad117) : Option Addr).map (·.add ((x3_2 : Int).toNat * 3))) := ⟨_, rfl⟩
               obtain ⟨c28, hc28⟩ : ∃ c1, c1 = co4 - (x3_2 : Int).toNat := ⟨_, rfl⟩
               have hy28 : y127.length = x0_2.length - (x3_2 : Int).toNat := (by rw [Ny127.out, List.length_drop] <;> omega)
               rw [show (x0_2).drop (x3_2 : Int).toNat = y127 from Ny127.out.symm] at hr28
               replace hr28 : Kd.C k34 _ A28 y127.length y127 := (by rw [hA28]; exact hr28)
               rw [← hy28, ← hA28, ← hc28] at hcut28
               have HR130 := mk0 hr28
               have HC130 := mk0 (show y127.length ≤ c28 from by rw [hy28, hc28]; exact Nat.sub_le_sub_right hroom28 _)
               have HKs28 := mk0 hroom28
               have HKc28 := mk0 hc28
               clear hr28 hC28 hroom28 hi028 hsz28 hc28
               have KY28 := mk0 hy28
               have KA28 := mk0 hA28
               clear hy28 hA28
               have KL28 := mk0 (show (x3_2 : Int).toNat ≤ x0_2.length from by omega)
               replace q28 := eq_true q28
               have q29 : (x3_2 : Int) ≤ ((x0_2.length : Int) : Int) := dcA
               obtain ⟨i029, hi029, _, hsz29, _⟩ := info_parts info34
               have hcut29 := cut_to (P := Tryz.prog) 25 34 .i64 Tryz.underlying25 hi029 (some ad117) x0_2.length co4 x3_2 (dcA) q29 (Kd.R_reads' HO_0.out).2.1
               obtain ⟨wc, hcl, ⟨yc, hRc, hyc, hlc⟩, hBc, hKc⟩ := clear_tail (P0 := P0_) (w0 := w0) (w := w) HO_0.out HB.out HK.out (x3_2 : Int).toNat KL28.out KA28.out HKs28.out KY28.out HKc28.out
               clear HB HK
               have HB := mk0 hBc
               have HK := mk0 hKc
               clear hBc hKc
               have hr29 := Kd.R_take (m := (x3_2 : Int).toNat) hRc (by have := KL28.out; omega)
               rw [hyc] at hr29
               have hy29 : y131.length = (x3_2 : Int).toNat := (by rw [Ny131.out, List.length_take]; omega)
               rw [← Ny131.out] at hr29
               rw [← hy29] at hr29 hcut29
               clear hy29 hi029 hsz29 HO_0
               have HO133 := mk0 hr29
               clear hr29
               replace q29 := eq_true q29
               go_wp2
               repeat (go_quiet (fail); try go_wp2)
               go_ret
               exact ⟨_, by first | rfl | (simp [errW_none, errW_some] <;> rfl) | (simp only [← hji7]; first | rfl | (simp [errW_none, errW_some] <;> rfl)) | (simp [*, errW_none, errW_some] <;> rfl), by (with_reducible repeat (first | refine rA ?_ | refine rN ?_ | refine rD ?_)); exact HO133.out, hbA, by repeat (first | (with_reducible first | exact HK.out | apply Kept.alloc | apply Kept.drewN | apply Kept.drew) | exact HK.out)⟩
              ·rw [if_neg c26] at H
               exact absurd H (by simp)
             ·rw [if_neg c25] at H
              exact absurd H (by simp)
         ·rw [if_neg c12] at H
          exact absurd H (by simp)
        ·rw [if_neg c10] at H
         have c10b0 : (((rd_T34 x0_1 x3_1).f0) == ((rd_T34 x0_1 (ji7)).f0) && (((rd_T34 x0_1 x3_1).f1) == ((rd_T34 x0_1 (ji7)).f1) && ((((rd_T34 x0_1 x3_1).f2).toList) == (((rd_T34 x0_1 (ji7)).f2).toList)))) = false := by simpa using c10
         (try (have c10b1 : decide (((rd_T34 x0_1 x3_1).f0) = ((rd_T34 x0_1 (ji7)).f0) && (((rd_T34 x0_1 x3_1).f1) == ((rd_T34 x0_1 (ji7)).f1) && ((((rd_T34 x0_1 x3_1).f2).toList) == (((rd_T34 x0_1 (ji7)).f2).toList)))) = false := by simpa using c10))
         (try (have c10b2 : (((rd_T34 x0_1 x3_1).f0) == ((rd_T34 x0_1 (ji7)).f0) && (((rd_T34 x0_1 x3_1).f1) == ((rd_T34 x0_1 (ji7)).f1) && ((((rd_T34 x0_1 x3_1).f2).toList) == (((rd_T34 x0_1 (ji7)).f2).toList)))) = false := by simpa using c10))
         (try (have c10b3 : ¬ (((rd_T34 x0_1 x3_1).f0) = ((rd_T34 x0_1 (ji7)).f0) && (((rd_T34 x0_1 x3_1).f1) == ((rd_T34 x0_1 (ji7)).f1) && ((((rd_T34 x0_1 x3_1).f2).toList) == (((rd_T34 x0_1 (ji7)).f2).toList)))) := by simpa using c10))
         clear c10
         have H' := mk0 H
         clear H
         have p117 : 0 ≤ (x3_1 : Int) := dcA
         have q117 : x3_1 < (x0_1.length : Int) := dcA
         obtain ⟨ad117, e117, hx117_0, hx117_1, hx117_2⟩ := at_T34 (Kd.R_reads' HO_0.out).2.2 x3_1 p117 q117
         cases e117
         replace p117 := eq_true p117
         replace q117 := eq_true q117
         have p118 : 0 ≤ ((ji7) : Int) := dcA
         have q118 : (ji7) < (x0_1.length : Int) := dcA
         obtain ⟨ad118, e118, hx118_0, hx118_1, hx118_2⟩ := at_T34 (Kd.R_reads' HO_0.out).2.2 (ji7) p118 q118
         obtain rfl : ad117 = ad118 := (by injection e118)
         replace p118 := eq_true p118
         replace q118 := eq_true q118
         go_wp2
         repeat (go_quiet (fail); try go_wp2)
         (try simp only [← hl0_1])
         go_roundg k1
         case measure => have := HK1.out; omega
         case rel => exact ⟨(x0_1), (wrap64 (x3_1 + 1)), rfA, H', ⟨by have := HK1.out; omega⟩, ⟨by (try simp only [hl0_1]); (with_reducible repeat (first | refine rA ?_ | refine rN ?_ | refine rD ?_)); exact HO_0.out⟩, ⟨by repeat (first | (with_reducible first | exact HK.out | apply Kept.alloc | apply Kept.drewN | apply Kept.drew) | exact HK.out)⟩, ⟨hbA⟩⟩
       ·rw [if_neg c9] at H
        exact absurd H (by simp)
      ·rw [if_neg c8] at H
       exact absurd H (by simp)
     ·rw [if_neg c6] at H
      exact absurd H (by simp)
    ·rw [if_neg c5] at H
     have c5b0 : decide (x3_1 < (x0_1.length : Int)) = false := decide_eq_false c5
     clear c5
     obtain rfl := Option.some.inj H
     go_wp2
     repeat (go_quiet (fail); try go_wp2)
     go_ret
     exact ⟨_, eoA, by (with_reducible repeat (first | refine rA ?_ | refine rN ?_ | refine rD ?_)); exact HO_0.out, hbA, by repeat (first | (with_reducible first | exact HK.out | apply Kept.alloc | apply Kept.drewN | apply Kept.drew) | exact HK.out)⟩
/-! ### pick_heads: function 14 -/
def pick_heads.l0 : Nat → Int → List (S34) → List (List (S34)) → Int → Int → Option ((List (S34)))
 | 0, _, _, _, _, _ => none
 | k + 1, x1, x5, x8, x9, x10 => if x10 < x9 then (if 0 ≤ x10 then (if x10 < (x8.length : Int) then (if 0 ≤ x1 then (if x1 < ((rd_L3 x8 x10).length : Int) then (if x5.length < 4398046511104 then (pick_heads.l0 k x1 (x5 ++ [(⟨(rd_T34 (rd_L3 x8 x10) x1).f0, (rd_T34 (rd_L3 x8 x10) x1).f1, (rd_T34 (rd_L3 x8 x10) x1).f2⟩ : S34)]) x8 x9 (wrap64 (x10 + 1))) else (none)) else (none)) else (none)) else (none)) else (none)) else (some x5)
/-- What is behind the loop: sorted, and each once. -/
def heads_end (k : Nat) (d : List S34) : Option (List S34) := if d.length < 4611686018427387904 then compact.f k (sorted d) else none
def pick_heads.f (k : Nat) (l0 : List (List (S34))) (a1 : Int) : Option ((List (S34))) := (pick_heads.l0 k a1 ([] : List (S34)) l0 (l0.length : Int) 0).bind fun d => heads_end k d
set_option maxHeartbeats 8000000 in
set_option maxRecDepth 100000 in
theorem pick_heads.calls (k : Nat) (A0 : Option Addr) (c0 : Nat) (l0 : List (List (S34))) (a1 : Int) (r : List (S34)) (w : World) (hr0 : Kd.C (Kd.slice 34 k34) w A0 l0.length l0) (hc0 : l0.length ≤ c0) (h : pick_heads.f k l0 a1 = some r) (hGL : GL w := by repeat (first | assumption | exact GL.of_below (by assumption) (by assumption) | exact GL.of_below (by assumption) (Aside0.out (by assumption)) | with_reducible apply GL.drewN | with_reducible apply GL.drew | with_reducible apply GL.alloc | with_reducible refine GL.set (by assumption) (by assumption) ?_ _ _)) :
  Calls Tryz.prog 14 #[.slice A0 l0.length c0, .int .i64 a1] w fun e w' => ∃ v0_ : Value, e = .returned (v0_) ∧ Kd.R k34 34 w' w.heap.size (fun _ => True) v0_ r ∧ Below w.heap.size w w' := by
 have hu34 := Tryz.underlying34
 have HR0 := mk0 hr0
 have HC0 := mk0 hc0
 clear hr0 hc0
 have HB := mk0 (Below.refl w.heap.size w)
 obtain ⟨d, H, hd⟩ := Option.bind_eq_some_iff.mp h
 clear h
 have HD := mk0 hd
 clear hd
 have H' := mk0 H
 clear H
 go_enter Tryz.func14, Tryz.ntmps14
 go_wp2
 go_loopg [5, 10] k (fun kq v5 v10 w' => ∃ (x5_1 : List (S34)) (x10_1 : Int), v10 = .int .i64 x10_1 ∧ Aside0 (pick_heads.l0 kq a1 x5_1 l0 (l0.length : Int) x10_1 = some d) ∧ Aside0 (kq ≤ k) ∧ Aside0 (Kd.R k34 34 w' w.heap.size (fun _ => True) v5 x5_1) ∧ Aside0 (Below w.heap.size w w'))
 case atStart => exact ⟨(([] : List (S34))), (0), rfA, H', ⟨Nat.le_refl _⟩, ⟨by first | exact Kd.R_nil _ _ _ _ _ | exact Kd.N_nil _ _ _ _ _ | exact Kd.V_nil _ _ _ _ _ | exact Kd.Q_nil _ _ _ _ _ | exact Kd.S_nil _ _ _ _ _⟩, ⟨hbA⟩⟩
 case round =>
  clear H'
  try clear c1
  try clear p2
  obtain ⟨x5_1, x10_1, rfl, HA, HK1, HO_5, HB⟩ := hrel
  cases gk with
  | zero => exact absurd HA.out (by simp [pick_heads.l0])
  | succ k1 =>
   have H := HA.out
   clear HA
   simp only [pick_heads.l0] at H
   by_cases c3 : x10_1 < (l0.length : Int)
   ·rw [if_pos c3] at H
    have c3b0 : decide (x10_1 < (l0.length : Int)) = true := decide_eq_true c3
    clear c3
    by_cases c4 : 0 ≤ x10_1
    ·rw [if_pos c4] at H
     have c4b0 : decide (0 ≤ x10_1) = true := decide_eq_true c4
     clear c4
     by_cases c5 : x10_1 < (l0.length : Int)
     ·rw [if_pos c5] at H
      have c5b0 : decide (x10_1 < (l0.length : Int)) = true := decide_eq_true c5
      clear c5
      by_cases c6 : 0 ≤ a1
      ·rw [if_pos c6] at H
       have c6b0 : decide (0 ≤ a1) = true := decide_eq_true c6
       clear c6
       by_cases c7 : a1 < ((rd_L3 l0 x10_1).length : Int)
       ·rw [if_pos c7] at H
        have c7b0 : decide (a1 < ((rd_L3 l0 x10_1).length : Int)) = true := decide_eq_true c7
        clear c7
        by_cases c8 : x5_1.length < 4398046511104
        ·rw [if_pos c8] at H
         have LMc8 := mk0 c8
         clear c8
         obtain ⟨y136, hy136⟩ : ∃ y_ : List (S34), y_ = (x5_1 ++ [(⟨(rd_T34 (rd_L3 l0 x10_1) a1).f0, (rd_T34 (rd_L3 l0 x10_1) a1).f1, (rd_T34 (rd_L3 l0 x10_1) a1).f2⟩ : S34)]) := ⟨_, rfl⟩
         replace H : (pick_heads.l0 k1 a1 y136 l0 (l0.length : Int) (wrap64 (x10_1 + 1))) = some d := by first | (rw [hy136]; with_reducible exact H) | (have H2_ := (Option.bind_some _ _).symm.trans H; rw [hy136]; with_reducible exact H2_) | (have H2_ := (Option.bind_some _ _).symm.trans H; with_reducible exact H2_) | with_reducible exact H | (rw [hy136]; exact H) | exact H
         have Ny136 := mk0 hy136
         clear hy136
         have H' := mk0 H
         clear H
         have p134 : 0 ≤ (x10_1 : Int) := dcA
         have q134 : x10_1 < (l0.length : Int) := dcA
         obtain ⟨ad134, A134_0, c134_0, e134, hx134_0, hl134_0, hi134_0⟩ := at_L3 HR0.out x10_1 p134 q134
         cases e134
         replace hx134_0 := (HB.out.cell (World.block_lt_of_cell? w _ hx134_0)).trans hx134_0
         have HR134_0 := mk0 hi134_0
         have HC134_0 := mk0 hl134_0
         clear hi134_0 hl134_0
         replace p134 := eq_true p134
         replace q134 := eq_true q134
         have p135 : 0 ≤ (a1 : Int) := dcA
         have q135 : a1 < ((rd_L3 l0 x10_1).length : Int) := dcA
         obtain ⟨ad135, e135, hx135_0, hx135_1, hx135_2⟩ := at_T34 HR134_0.out a1 p135 q135
         cases e135
         replace hx135_0 := (HB.out.cell (World.block_lt_of_cell? w _ hx135_0)).trans hx135_0
         replace hx135_1 := (HB.out.cell (World.block_lt_of_cell? w _ hx135_1)).trans hx135_1
         replace hx135_2 := (HB.out.cell (World.block_lt_of_cell? w _ hx135_2)).trans hx135_2
         replace p135 := eq_true p135
         replace q135 := eq_true q135
         go_wp2_with (first | ((with_reducible refine gate_builtin (b := .append) (xs := #[.tmp 14, .tmp 19]) rfl ?_); at_builtin; refine Kd.R_append k34 (w0 := w) w.heap.size rfl (.tmp 14) (.tmp 19) 25 34 (.agg #[(.int .i64 0), (.int .i64 0), (.string ⟨#[]⟩)]) 32 rfl Tryz.underlying25 info34 rfl (by decide) (by omega) u5 x5_1 (⟨(rd_T34 (rd_L3 l0 x10_1) a1).f0, (rd_T34 (rd_L3 l0 x10_1) a1).f1, (rd_T34 (rd_L3 l0 x10_1) a1).f2⟩ : S34) [.int .i64 ((rd_T34 (rd_L3 l0 x10_1) a1).f0), .int .i64 ((rd_T34 (rd_L3 l0 x10_1) a1).f1), .string ((rd_T34 (rd_L3 l0 x10_1) a1).f2)] (fun _ => True) (fun _ => False) rfl rfl ?aP (fun _ hk => hk.elim) ?aF ?aO ?aB ?aS ?aL ?_; (case aP => exact k34_mkM _ _ _ (⟨(rd_T34 (rd_L3 l0 x10_1) a1).f0, (rd_T34 (rd_L3 l0 x10_1) a1).f1, (rd_T34 (rd_L3 l0 x10_1) a1).f2⟩ : S34)); (case aB => exact hbA); (case aF => exact (fun _ _ => trivial)); (case aO => exact (by (with_reducible repeat (first | refine rA ?_ | refine rN ?_ | refine rD ?_)); exact HO_5.out)); (case aS => exact (below_size hbA)); (case aL => have := LMc8.out; omega); intro v137 w9 ho hb hg hat; rw [← Ny136.out] at ho; have n0_ := mk0 hb; have n1_ := mk0 ho; clear HB; clear HO_5; have HB := n0_; have HO138 := n1_; clear n0_ n1_; clear ho hb hg hat))
         go_roundg k1
         case measure => have := HK1.out; omega
         case rel => exact ⟨(y136), (wrap64 (x10_1 + 1)), rfA, H', ⟨by have := HK1.out; omega⟩, ⟨by (with_reducible repeat (first | refine rA ?_ | refine rN ?_ | refine rD ?_)); exact HO138.out⟩, ⟨hbA⟩⟩
        ·rw [if_neg c8] at H
         exact absurd H (by simp)
       ·rw [if_neg c7] at H
        exact absurd H (by simp)
      ·rw [if_neg c6] at H
       exact absurd H (by simp)
     ·rw [if_neg c5] at H
      exact absurd H (by simp)
    ·rw [if_neg c4] at H
     exact absurd H (by simp)
   ·rw [if_neg c3] at H
    have c3b0 : decide (x10_1 < (l0.length : Int)) = false := decide_eq_false c3
    clear c3
    obtain rfl := Option.some.inj H
    have hd := HD.out
    unfold heads_end at hd
    by_cases hsz : x5_1.length < 4611686018427387904
    ·rw [if_pos hsz] at hd
     have HD2 := mk0 hd
     have HZ := mk0 hsz
     clear hd hsz HD
     go_wp2_with (first
      | ((with_reducible refine gate_callee (f := 22) rfl ?_); refine goesL_ (some 23) rfl rfl Tryz.func22 (by kernel_rfl) rfl #[u5, .func (.func 23) #[] #[]] rfl (by (try simp only [List.map_toArray, List.map_cons, List.map_nil]); first | done | rfl) ?_; (refine (sortFunc.calls (fun _ => True) u5 x5_1 w _ hGL ?sb ?sr HZ.out).mono ?_); (case sb => exact hbA); (case sr => exact (by (with_reducible repeat (first | refine rA ?_ | refine rN ?_ | refine rD ?_)); exact HO_5.out)); rintro e w2 ⟨rfl, hR2, hB2⟩; have HO2 := mk0 hR2; have HB2 := mk0 hB2; clear hR2 hB2; refine ⟨_, rfl, ?_⟩)
      | ((with_reducible refine gate_callee (f := 24) rfl ?_); refine goesL_ (some 25) rfl rfl Tryz.func24 (by kernel_rfl) rfl #[u5] rfl (by (try simp only [List.map_toArray, List.map_cons, List.map_nil]); first | done | rfl) ?_; (refine (compact.calls k (fun _ => True) u5 (sorted x5_1) r w _ ?sb ?sr HD2.out).mono ?_); (case sb => exact (by repeat (first | (with_reducible first | exact HB2.out | apply below_alloc | apply pw_below_drewN | apply below_drew1) | exact HB2.out))); (case sr => exact (by (with_reducible repeat (first | refine rA ?_ | refine rN ?_ | refine rD ?_)); exact HO2.out)); rintro e w3 ⟨v3_, rfl, hR3, hB3, hK3⟩; have HO3 := mk0 (Kd.R_mono (ok' := fun _ => True) hR3 (fun _ _ => trivial)); have HB3 := mk0 hB3; clear hR3 hB3 hK3; refine ⟨_, rfl, ?_⟩))
     go_ret
     exact ⟨_, eoA, by (with_reducible repeat (first | refine rA ?_ | refine rN ?_ | refine rD ?_)); exact HO3.out, by repeat (first | (with_reducible first | exact HB3.out | apply below_alloc | apply pw_below_drewN | apply below_drew1) | exact HB3.out)⟩
    ·rw [if_neg hsz] at hd
     exact absurd hd (by simp)
end Go.Proofs.YtpinblladamdiaaGreatDoor.Pc
