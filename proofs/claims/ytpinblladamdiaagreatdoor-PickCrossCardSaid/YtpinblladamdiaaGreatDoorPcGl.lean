/- What the package-level variable holds that errors.As reads, and that this stays so in every later world. -/
import Derived.Test.YtpinblladamdiaaGreatDoorProg
import Derived.WalkKit
import Derived.KernelRfl
import Derived.Test.YtpinblladamdiaaGreatDoorWWords
set_option linter.unusedVariables false
namespace Go.Proofs.YtpinblladamdiaaGreatDoor.Pc
open Go.RowKit Go.Proofs.YtpinblladamdiaaGreatDoorW.PrintWords
/-- Two texts, one behind the other, under a name that the walk leaves whole. -/
def cat (x y : ByteArray) : ByteArray := x ++ y
theorem cat_eq (x y : ByteArray) : x ++ y = cat x y := rfl
/-- A part of a text, under a name that the walk leaves whole. -/
def ext (x : ByteArray) (i j : Nat) : ByteArray := x.extract i j
theorem ext_eq (x : ByteArray) (i j : Nat) : x.extract i j = ext x i j := rfl
/-- What the listed variable holds. -/
structure GL (w : World) : Prop where
  errType : w.cell? ⟨0, 0, none⟩ = some (.iface 99 (.agg #[.pointer (some ⟨10, 28, none⟩)]))
  size : 0 + 1 ≤ w.heap.size
theorem GL.below {B : Nat} {w w' : World} (h : GL w) (hB : 0 + 1 ≤ B) (hb : Below B w w') : GL w' := by
  refine ⟨?_, Nat.le_trans h.size hb.size⟩
  rw [hb.cell (p := ⟨0, 0, none⟩) (by show 0 < B; omega)]; exact h.errType
theorem GL.drewN {w : World} (h : GL w) (n : Nat) : GL (w.drewN n) := h.below h.size (Below.mono (Drawn0.below ⟨⟨n, rfl⟩⟩) (Nat.le_refl _))
theorem GL.drew {w : World} (h : GL w) : GL w.drew := h.below h.size (Below.refl _ _).drew
theorem GL.alloc {w : World} (h : GL w) (o : Obj) : GL (w.alloc o) := h.below h.size ((Below.refl _ _).alloc (Nat.le_refl _) o)
theorem GL.of_below {w0 w' : World} (h : GL w0) (hb : Below w0.heap.size w0 w') : GL w' := h.below h.size hb
theorem GL.set {w0 w : World} {b : Nat} (h0 : GL w0) (hge : Aside0 (w0.heap.size ≤ b)) (h : GL w) (o : Nat) (u : Value) : GL (w.setCell ⟨b, o, none⟩ u) :=
  h.below (Nat.le_refl _) ((Below.refl _ w).setCell (Nat.le_trans h0.size hge.out) u)
/-- '>' of texts. -/
theorem bytes_gtr : ∀ a b : List UInt8, (!(Op.bytesLess a b || a == b)) = Op.bytesLess b a
  | [], [] => rfl
  | [], _ :: _ => rfl
  | _ :: _, [] => rfl
  | x :: a, y :: b => by
    have ih := bytes_gtr a b
    rcases Nat.lt_trichotomy x.toNat y.toNat with h | h | h
    · have h1 : x < y := h
      have h2 : ¬ y < x := fun h' => Nat.lt_asymm h h'
      have h3 : ¬ y = x := fun e => by rw [e] at h1; exact Nat.lt_irrefl _ h1
      simp [Op.bytesLess, h1, h2, h3]
    · have h1 : x = y := UInt8.toNat_inj.1 h
      subst h1
      have h2 : ¬ x < x := Nat.lt_irrefl _
      simp only [Op.bytesLess, h2, decide_false, Bool.false_or, beq_self_eq_true, Bool.true_and]
      rw [← ih]
      simp
    · have h1 : y < x := h
      have h2 : ¬ x < y := fun h' => Nat.lt_asymm h h'
      have h3 : ¬ x = y := fun e => by rw [e] at h1; exact Nat.lt_irrefl _ h1
      simp [Op.bytesLess, h1, h2, h3]
theorem stringOp_gtr (x y : ByteArray) : Op.stringOp .gtr x y = pure (.bool (Op.bytesLess y.toList x.toList)) := by
  show (pure (.bool (!(Op.bytesLess x.toList y.toList || x.toList == y.toList))) : Sem Value) = _
  rw [bytes_gtr]
theorem binOp_gtr (t : TypeId) (a b : ByteArray) : binOp .gtr t (.string a) (.string b) = pure (.bool (Op.bytesLess b.toList a.toList)) := by
  rw [show binOp .gtr t (.string a) (.string b) = pure (.bool (!(Op.bytesLess a.toList b.toList || a.toList == b.toList))) by simp [binOp, Op.stringOp], bytes_gtr]
end Go.Proofs.YtpinblladamdiaaGreatDoor.Pc
