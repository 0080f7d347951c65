/- What a call's argument reads as, by its type: whole numbers, truths, texts, structs and slices of these, as the printed contracts want them. -/
import Derived.Test.YtpinblladamdiaaGreatDoorWWords
import Derived.Deep.Slices
set_option linter.unusedVariables false
namespace Go.Proofs.YtpinblladamdiaaGreatDoor.Op
open Go.RowKit Go.Proofs.YtpinblladamdiaaGreatDoorW.PrintWords
open Go.ChangeShapes Go.WideShapes
/-- Whatever of type t can be read is a value of kind d of which G holds. -/
structure Opens (P : Program) (t : TypeId) {α : Type} (d : Kd α) (G : α → Prop) : Prop where
  op : ∀ (H : Type) (enc : TypeId × Value → H) (w : World) (base : Nat) (held : Bool) (fuel : Nat) (cs : List Value) (x : DataW H × List MemPlace),
    DataW.trod enc P w base (fun _ => true) held fuel t cs = some x → ∃ v, d.K w v cs ∧ G v
theorem Opens.int {P : Program} {t : TypeId} {k : IntKind} (ht : P.underlying t = some (.int k)) : Opens P t (Kd.int k) (fun n => (Lit.int k n).wf = true) := by
  refine ⟨fun H enc w base held fuel cs x h => ?_⟩
  obtain ⟨n, rfl, _, hw⟩ := DataW.trod_int ht h
  exact ⟨n, rfl, hw⟩
theorem Opens.string {P : Program} {t : TypeId} (ht : P.underlying t = some .string) : Opens P t Kd.string (fun s => s.size ≤ maxLen) := by
  refine ⟨fun H enc w base held fuel cs x h => ?_⟩
  obtain ⟨n, rfl, _, hw⟩ := DataW.trod_string ht h
  exact ⟨n, rfl, hw⟩
/-- The elements of a row, one by one. -/
theorem choose_list {α : Type} {n : Nat} {p : Nat → α → Prop} (h : ∀ i, i < n → ∃ x, p i x) : ∃ l : List α, l.length = n ∧ ∀ i v, l[i]? = some v → p i v := by
  induction n with
  | zero => exact ⟨[], rfl, fun i v hv => by simp at hv⟩
  | succ n ih =>
    obtain ⟨l, hl, hp⟩ := ih (fun i hi => h i (by omega))
    obtain ⟨x, hx⟩ := h n (by omega)
    refine ⟨l ++ [x], by simp [hl], fun i v hv => ?_⟩
    rcases Nat.lt_or_ge i l.length with hi | hi
    · rw [List.getElem?_append_left hi] at hv
      exact hp i v hv
    · rw [List.getElem?_append_right hi] at hv
      rcases Nat.eq_zero_or_pos (i - l.length) with h0 | h0
      · rw [h0] at hv
        simp at hv
        have : i = n := by omega
        rw [this, ← hv]; exact hx
      · rw [List.getElem?_eq_none (by simp; omega)] at hv; cases hv
theorem Opens.slice {P : Program} {t e : TypeId} {α : Type} {d : Kd α} {G : α → Prop} (ht : P.underlying t = some (.slice e)) (he : Opens P e d G) (hs : P.cellsOf e = d.sz) :
    Opens P t (Kd.slice e d) (fun l => l.length ≤ maxLen ∧ ∀ v ∈ l, G v) := by
  refine ⟨fun H enc w base held fuel cs x h => ?_⟩
  rcases Go.Deep.open_slice ht h with ⟨rfl, _⟩ | ⟨a, len, cap, m, n, D, Pl, rfl, hb, hl, hm, hmm, _, hx⟩
  · exact ⟨[], ⟨none, 0, rfl, Nat.le_refl _, rfl, by simp, fun h => by simp at h⟩, Nat.zero_le _, fun v hv => by simp at hv⟩
  · simp only [if_true] at hmm
    obtain ⟨l, hlen, hp⟩ := choose_list (n := len) (p := fun i v => ∃ c, w.cells? base (a.add (i * P.cellsOf e)) (P.cellsOf e) = some c ∧ d.K w v c ∧ G v) (fun i hi => by
      obtain ⟨c, h1, h2⟩ := hx i (by omega)
      obtain ⟨v, h3, h4⟩ := he.op H enc w base held n c _ h2
      exact ⟨v, c, h1, h3, h4⟩)
    refine ⟨l, ⟨some a, cap, by rw [hlen], by rw [hlen]; exact hl, ?_⟩, by rw [hlen]; omega, fun v hv => ?_⟩
    · refine ⟨rfl, by rw [hlen]; exact Nat.le_trans hl (Nat.le_trans hm (by decide +kernel)), fun _ => ⟨a, rfl, fun j p hj => ?_⟩⟩
      obtain ⟨c, h1, h2, h3⟩ := hp j p hj
      obtain ⟨_, h4, h5⟩ := World.cells?_some h1
      refine ⟨c, by rw [h4, hs], h2, fun i u hu => ?_⟩
      have hi : i < P.cellsOf e := by
        rcases Nat.lt_or_ge i c.length with k | k
        · omega
        · rw [List.getElem?_eq_none k] at hu; cases hu
      rw [← Go.Deep.add_add, ← hs, h5 i hi, hu]
    · obtain ⟨i, hi, rfl⟩ := List.getElem_of_mem hv
      obtain ⟨_, _, _, h3⟩ := hp i _ (List.getElem?_eq_getElem hi)
      exact h3
/-- The same of the fields of a struct from cell o on. -/
structure Fields (P : Program) (fs : List Field) (o : Nat) {α : Type} (d : Kd α) (G : α → Prop) : Prop where
  op : ∀ (H : Type) (enc : TypeId × Value → H) (w : World) (base : Nat) (held : Bool) (fuel : Nat) (cs : List Value),
    cs.length = o + d.sz → (∀ f, f ∈ fs → ∃ x, DataW.trod enc P w base (fun _ => true) held fuel f.type ((cs.drop f.offset).take (P.cellsOf f.type)) = some x) → ∃ v, d.K w v (cs.drop o) ∧ G v
theorem Fields.one {P : Program} {f : Field} {o : Nat} {α : Type} {d : Kd α} {G : α → Prop} (h : Opens P f.type d G) (ho : f.offset = o) (hs : P.cellsOf f.type = d.sz) : Fields P [f] o d G := by
  refine ⟨fun H enc w base held fuel cs hl hf => ?_⟩
  obtain ⟨x, hx⟩ := hf f (by simp)
  rw [ho, List.take_of_length_le (by rw [List.length_drop]; omega)] at hx
  exact h.op H enc w base held fuel _ x hx
theorem Fields.cons {P : Program} {f : Field} {fs : List Field} {o : Nat} {α β : Type} {d : Kd α} {b : Kd β} {G : α → Prop} {G' : β → Prop} (h : Opens P f.type d G) (ho : f.offset = o) (hs : P.cellsOf f.type = d.sz) (hr : Fields P fs (o + d.sz) b G') :
    Fields P (f :: fs) o (Kd.pair d b) (fun x => G x.1 ∧ G' x.2) := by
  refine ⟨fun H enc w base held fuel cs hl hf => ?_⟩
  have hl' : cs.length = o + (d.sz + b.sz) := hl
  obtain ⟨x, hx⟩ := hf f (by simp)
  rw [ho, hs] at hx
  obtain ⟨u, hu, gu⟩ := h.op H enc w base held fuel _ x hx
  obtain ⟨v, hv, gv⟩ := hr.op H enc w base held fuel cs (by omega) (fun g hg => hf g (by simp [hg]))
  refine ⟨(u, v), ⟨_, _, ?_, hu, hv⟩, gu, gv⟩
  rw [← List.drop_drop, List.take_append_drop]
theorem Opens.struct {P : Program} {t : TypeId} {fs : Array Field} {α β : Type} {d : Kd α} {G : α → Prop} {f : β → α} (g : α → β) (hg : ∀ x, f (g x) = x) (ht : P.underlying t = some (.struct fs)) (hs : P.cellsOf t = d.sz) (h : Fields P fs.toList 0 d G) :
    Opens P t (Kd.iso d f) (fun x => G (f x)) := by
  refine ⟨fun H enc w base held fuel cs x hx => ?_⟩
  obtain ⟨xs, n, _, _, hl, hlen, hf⟩ := DataW.trod_struct ht hx
  obtain ⟨v, hv, gv⟩ := h.op H enc w base held n cs (by rw [hl, hs]; omega) (fun q hq => by
    obtain ⟨i, hi, rfl⟩ := List.getElem_of_mem hq
    have h2 := hf i _ (by rw [Array.getElem?_eq_getElem (by simpa using hi)])
    simp only [Array.getElem_toList]
    rw [h2, List.getElem?_eq_getElem (by rw [hlen]; simpa using hi)]
    exact ⟨_, rfl⟩)
  refine ⟨g v, ?_, by show G (f (g v)); rw [hg]; exact gv⟩
  show d.K w (f (g v)) cs
  rw [hg]; exact hv
/-- A slice argument, opened. -/
theorem Opens.arg {P : Program} {t e : TypeId} {α : Type} {d : Kd α} {G : List α → Prop} {H : Type} {enc : TypeId × Value → H} {w : World} {base : Nat} {held : Bool} {A : Option Addr} {len cap : Nat} {x : DataW H} {p : List MemPlace}
    (ho : Opens P t (Kd.slice e d) G) (h : DataW.Trod enc P w base (fun _ => true) held t (.slice A len cap) x p) : ∃ l : List α, len = l.length ∧ l.length ≤ cap ∧ d.C w A l.length l ∧ G l := by
  obtain ⟨m, hm⟩ := h
  obtain ⟨l, ⟨A', c, hv, hl, hr⟩, g⟩ := ho.op H enc w base held m _ _ hm
  have hv' : [Value.slice A len cap] = [.slice A' l.length c] := hv
  simp only [List.cons.injEq, Value.slice.injEq, and_true] at hv'
  obtain ⟨rfl, rfl, rfl⟩ := hv'
  exact ⟨l, rfl, hl, hr, g⟩
end Go.Proofs.YtpinblladamdiaaGreatDoor.Op
