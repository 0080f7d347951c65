/- What the package-level variables hold that the library's functions on the road read, and that this stays so in every later world. -/
import Derived.Test.YtojdheaolffabaaDoorProg
import Derived.WalkKit
import Derived.WalkSmall
import Derived.Lib.ItoaMem
import Derived.KernelRfl
import Derived.Test.YtojdheaolffabaaDoorWWords
set_option linter.unusedVariables false
namespace Go.Proofs.YtojdheaolffabaaDoor.Fs
open Go.RowKit Go.Proofs.YtojdheaolffabaaDoorW.PrintWords

/-- Two texts, one behind the other, under a name that the walk leaves whole. -/
def cat (x y : ByteArray) : ByteArray := x ++ y
theorem cat_eq (x y : ByteArray) : x ++ y = cat x y := rfl

/-- A part of a text, under a name that the walk leaves whole. -/
def ext (x : ByteArray) (i j : Nat) : ByteArray := x.extract i j
theorem ext_eq (x : ByteArray) (i j : Nat) : x.extract i j = ext x i j := rfl

/-- What the listed variables hold. -/
structure GL (w : World) : Prop where
  maxlen : ∃ m, w.cell? ⟨2, 0, none⟩ = some (.int .i64 m)
  pow10 : Lib.TabIs Tryd.prog w "internal/strconv.uint64pow10" .u64 Lib.pow10Tab
  size : 3 ≤ w.heap.size

theorem g1 : Tryd.prog.globalNamed "internal/strconv.uint64pow10" = some 1 := by kernel_rfl

theorem GL.below {B : Nat} {w w' : World} (h : GL w) (hB : 3 ≤ B) (hb : Below B w w') : GL w' := by
  obtain ⟨⟨m, hm⟩, hp, hs⟩ := h
  refine ⟨⟨m, ?_⟩, ?_, Nat.le_trans hs hb.size⟩
  · rw [hb.cell (p := ⟨2, 0, none⟩) (by show 2 < B; omega)]; exact hm
  · exact var?_below hb g1 (by omega) hp
theorem GL.drewN {w : World} (h : GL w) (n : Nat) : GL (w.drewN n) := h.below h.size (Below.mono (Drawn0.below ⟨⟨n, rfl⟩⟩) (Nat.le_refl _))
theorem GL.drew {w : World} (h : GL w) : GL w.drew := h.below h.size (Below.refl _ _).drew
theorem GL.alloc {w : World} (h : GL w) (o : Obj) : GL (w.alloc o) := h.below h.size ((Below.refl _ _).alloc (Nat.le_refl _) o)
theorem GL.of_below {w0 w' : World} (h : GL w0) (hb : Below w0.heap.size w0 w') : GL w' := h.below h.size hb
theorem GL.set {w0 w : World} {b : Nat} (h0 : GL w0) (hge : Aside0 (w0.heap.size ≤ b)) (h : GL w) (o : Nat) (u : Value) : GL (w.setCell ⟨b, o, none⟩ u) :=
  h.below (Nat.le_refl 3) ((Below.refl 3 w).setCell (Nat.le_trans h0.size hge.out) u)
end Go.Proofs.YtojdheaolffabaaDoor.Fs
