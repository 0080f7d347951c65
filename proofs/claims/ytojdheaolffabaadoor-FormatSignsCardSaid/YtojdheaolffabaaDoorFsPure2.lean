/- The plain law of FormatSigns: for every number, each count of noughts and with commas or without, what is shown reads as the number. -/
import Derived.Test.YtojdheaolffabaaDoorFsPure1
namespace Go.Proofs.YtojdheaolffabaaDoor.Fs
open Go.RowKit Go.Lib Go.Proofs.YtojdheaolffabaaDoorW.PrintWords Go.Proofs.YtojdheaolffabaaDoorW.PrintLast Go.Proofs.YtojdheaolffabaaDoorW.PrintMore
set_option linter.unusedVariables false

instance decBytes : DecidableEq ByteArray := fun a b => decidable_of_iff (a.data = b.data) ⟨fun h => by cases a; cases b; simp at h; rw [h], fun h => by rw [h]⟩

theorem read_fact : format_read.f 3 (⟨#[34, 36, 34, 35, 44, 48, 46, 48, 48]⟩ : ByteArray) = some (B [36], B [], true, 1, 2, true) := by decide +kernel

def codeOf (comma : Bool) (z : Nat) : List UInt8 := (if comma then [35, 44] else []) ++ List.replicate z 48

def okc (c : Bool) (z : Nat) : Bool := decide (format_read.f 3 (B (codeOf c (z + 1))) = some (B [], B [], c, ((z + 1 : Nat) : Int), 0, true))
theorem okc_all : ((List.range 20).all (okc true) && (List.range 20).all (okc false)) = true := by decide +kernel
theorem read_codes (c : Bool) (z : Nat) (h : z < 20) : format_read.f 3 (B (codeOf c (z + 1))) = some (B [], B [], c, ((z + 1 : Nat) : Int), 0, true) := by
  have h2 := okc_all
  rw [Bool.and_eq_true, List.all_eq_true, List.all_eq_true] at h2
  cases c with
  | true => exact of_decide_eq_true (h2.1 z (List.mem_range.2 h))
  | false => exact of_decide_eq_true (h2.2 z (List.mem_range.2 h))

/-- What is shown of n, where the code is read. -/
theorem show_f (n : Int) (h0 : -9223372036854775808 ≤ n) (h1 : n ≤ 9223372036854775807) (code : ByteArray) (ah bh : List UInt8) (grp : Bool) (least point : Nat)
    (hr : format_read.f 3 code = some (B ah, B bh, grp, (least : Int), (point : Int), true)) (hl1 : 1 ≤ least) (hl : least ≤ 100) (hp : point ≤ 100) (hb : ah.length + bh.length ≤ 100)
    (S : List UInt8) (hS : S = List.replicate (least + point - (decDigits n.natAbs).length) 48 ++ decDigits n.natAbs) :
    ∃ f, (grp = true → f ≤ 3) ∧ f ≤ S.length - point ∧ 1 ≤ f ∧ (S.length - point - f) % 3 = 0 ∧ (grp = false → f = S.length - point) ∧
      Ev (fun k => format_Show.f k 1 n (⟨#[]⟩ : ByteArray) code)
        (B ((if n < 0 then [45] else []) ++ ah ++ ((S.take (S.length - point)).take f ++ tail3 ((S.take (S.length - point)).drop f)) ++ P46 (S.drop (S.length - point)) ++ bh), none) := by
  obtain ⟨f, a1, a2, a3, a4, a5, hev⟩ := show_j0 n.natAbs (by omega) (if n < 0 then [45] else []) ah bh grp least point hl1 hl hp (by split <;> simp <;> omega) S hS
  refine ⟨f, a1, a2, a3, a4, a5, ?_⟩
  have hread : Ev (fun k => format_read.f k code) (B ah, B bh, grp, (least : Int), (point : Int), true) := Ev.of (format_read.mono code) hr
  refine Ev.congr (fun k => ?_) (Ev.bind hread (f := fun k x => if x.2.2.2.2.2 = true then (if (1 : Int) = 1 then (if n < 0 then (format_Show.j0 k (IntKind.u64.wrap (-(IntKind.u64.wrap n))) (⟨#[45]⟩ : ByteArray) x.1 x.2.1 x.2.2.1 x.2.2.2.1 x.2.2.2.2.1) else (format_Show.j0 k (IntKind.u64.wrap n) (⟨#[]⟩ : ByteArray) x.1 x.2.1 x.2.2.1 x.2.2.2.1 x.2.2.2.2.1)) else none) else some ((⟨#[]⟩ : ByteArray), some 2)) ?_)
  · rfl
  · refine Ev.congr (fun k => ?_) hev
    simp only
    rw [if_pos trivial, if_pos trivial]
    by_cases hn : n < 0
    · rw [if_pos hn, if_pos hn]
      have e : IntKind.u64.wrap (-(IntKind.u64.wrap n)) = (n.natAbs : Int) := by rw [IntKind.wrap_u64, IntKind.wrap_u64]; omega
      rw [e]; rfl
    · rw [if_neg hn, if_neg hn]
      have e : IntKind.u64.wrap n = (n.natAbs : Int) := by rw [IntKind.wrap_u64]; omega
      rw [e]; rfl

theorem dd_fact : decDigits 1234567 = [49, 50, 51, 52, 53, 54, 55] := by
  iterate 6 rw [decDigits, dif_neg (by omega)]
  rw [decDigits, dif_pos (by omega)]
  rfl

theorem fact : Ev (fun k => format_Show.f k 1 (-1234567) (⟨#[]⟩ : ByteArray) (⟨#[34, 36, 34, 35, 44, 48, 46, 48, 48]⟩ : ByteArray)) (B [45, 36, 49, 50, 44, 51, 52, 53, 46, 54, 55], none) := by
  obtain ⟨f, a1, a2, a3, a4, a5, hev⟩ := show_f (-1234567) (by omega) (by omega) _ [36] [] true 1 2 read_fact (by omega) (by omega) (by omega) (by simp) [49, 50, 51, 52, 53, 54, 55] (by
    rw [show (-1234567 : Int).natAbs = 1234567 from rfl, dd_fact]; rfl)
  have hf : f = 2 := by
    have := a1 rfl
    simp at a2 a4
    omega
  subst hf
  exact hev

/-- Leading noughts away, but for the last sign. -/
def strip : Bool → List UInt8 → List UInt8
  | _, [] => []
  | true, c :: t => c :: t
  | false, c :: t => if c ≠ 48 ∨ t = [] then c :: t else strip false t
theorem strip_true (l : List UInt8) : strip true l = l := by cases l <;> rfl

def ints (l : List UInt8) : List Int := l.map fun c => (c.toNat : Int)
theorem ints_snoc (l : List UInt8) (c : UInt8) : ints l ++ [(c.toNat : Int)] = ints (l ++ [c]) := by simp [ints]
theorem ints_len (l : List UInt8) : (ints l).length = l.length := by simp [ints]

theorem c48 (c : UInt8) : ((c.toNat : Int) = 48) ↔ c = 48 := by
  constructor
  · intro h
    have : c.toNat = (48 : UInt8).toNat := by have : (48 : UInt8).toNat = 48 := rfl; omega
    exact UInt8.toNat_inj.1 this
  · rintro rfl; rfl
theorem c44 (c : UInt8) (h : 48 ≤ c.toNat) : ¬ ((c.toNat : Int) = 44) := by omega

theorem tail3_nil {d : List UInt8} (h : d.length % 3 = 0) : tail3 d = [] ↔ d = [] := by
  constructor
  · intro e
    have := tail3_len (d.length / 3) d (by omega)
    rw [e] at this
    simp at this
    exact List.eq_nil_of_length_eq_zero (by omega)
  · rintro rfl; rfl

/-- The loop over what is shown: each sign is a digit, or a comma where one may be. -/
theorem scan (n zeros : Int) (comma : Bool) (s : List UInt8) (R : Bool) (hs : s.length ≤ 1000) :
    ∀ (len : Nat) (a d pre b : List UInt8) (dg : Nat) (begun : Bool), (a ++ tail3 d).length ≤ len → s = pre ++ (a ++ tail3 d) → d.length % 3 = 0 → (d ≠ [] → comma = true) → (d ≠ [] → a ≠ [] ∨ pre ≠ []) →
      (∀ c ∈ a, 48 ≤ c.toNat) → (∀ c ∈ d, 48 ≤ c.toNat) → dg ≤ pre.length → b.length ≤ pre.length →
      (∀ bg, Ev (fun k => scclaw4_FormatSigns.l1 k n zeros comma (B s) (ints (b ++ strip begun (a ++ d))) ((dg + a.length + d.length : Nat) : Int) (s.length : Int) bg) R) →
      Ev (fun k => scclaw4_FormatSigns.l1 k n zeros comma (B s) (ints b) (dg : Int) (pre.length : Int) begun) R := by
  intro len
  induction len with
  | zero =>
    intro a d pre b dg begun hlen hsplit hd hcomma hne ha hdd hdg hbl hfin
    have h0 : a ++ tail3 d = [] := List.eq_nil_of_length_eq_zero (by omega)
    obtain ⟨rfl, ht⟩ := List.append_eq_nil_iff.1 h0
    have hd0 := (tail3_nil hd).1 ht
    subst hd0
    have := hfin begun
    simp [tail3] at hsplit
    subst hsplit
    simpa [strip] using this
  | succ len ih =>
    intro a d pre b dg begun hlen hsplit hd hcomma hne ha hdd hdg hbl hfin
    cases a with
    | nil =>
      match d, hd with
      | [], _ =>
        have := hfin begun
        simp [tail3] at hsplit
        subst hsplit
        simpa [strip] using this
      | x :: y :: z :: d', hd =>
        have hd' : d'.length % 3 = 0 := by simp at hd; omega
        have htl := tail3_len (d'.length / 3) d' (by omega)
        have hsl : s.length = pre.length + 4 + (tail3 d').length := by rw [hsplit]; simp [tail3]; omega
        have hstep := ih [x, y, z] d' (pre ++ [44]) b dg begun (by simp [tail3] at hlen ⊢; omega) (by rw [hsplit]; simp [tail3]) hd' (fun _ => hcomma (by simp)) (fun _ => Or.inl (by simp)) (fun c hc => hdd c (by simp at hc ⊢; rcases hc with h | h | h <;> simp [h])) (fun c hc => hdd c (by simp [hc])) (by simp; omega) (by simp; omega)
          (fun bg => by have := hfin bg; simpa [Nat.add_assoc, Nat.add_comm, Nat.add_left_comm] using this)
        refine Ev.step (fun k => ?_) hstep
        simp only [scclaw4_FormatSigns.l1]
        have hbt : bt (B s) (pre.length : Int) = 44 := by rw [hsplit]; exact bt_B pre _ 44 _ rfl
        rw [if_pos (by rw [size_B]; omega), if_pos (by omega), if_pos hbt, if_pos (hcomma (by simp)), if_pos (by
          rw [size_B, w64 (by omega) (by omega), Int.tmod_eq_emod_of_nonneg (by omega)]
          omega), w64 (by omega) (by omega)]
        simp
    | cons c a' =>
      have hsl : s.length = pre.length + 1 + (a' ++ tail3 d).length := by rw [hsplit]; simp; omega
      have hc := ha c List.mem_cons_self
      have hbt : bt (B s) (pre.length : Int) = c.toNat := by rw [hsplit]; exact bt_B pre _ c _ rfl
      have hlast : ((pre.length : Int) == wrap64 (((B s).size : Int) - 1)) = decide (a' ++ d = []) := by
        rw [size_B, w64 (by omega) (by omega)]
        have e1 : (a' ++ d = []) ↔ (a' ++ tail3 d = []) := by rw [List.append_eq_nil_iff, List.append_eq_nil_iff, tail3_nil hd]
        have e2 : (a' ++ tail3 d = []) ↔ (a' ++ tail3 d).length = 0 := List.length_eq_zero_iff.symm
        rw [Bool.eq_iff_iff, beq_iff_eq, decide_eq_true_iff, e1, e2]
        omega
      have hpre : s = (pre ++ [c]) ++ (a' ++ tail3 d) := by rw [hsplit]; simp
      have hlen' : (a' ++ tail3 d).length ≤ len := by simp at hlen ⊢; omega
      -- the sign is taken
      have htake : ∀ (t : Bool), (t = true ∨ begun = true) → strip begun (c :: (a' ++ d)) = c :: (a' ++ d) → Ev (fun k => scclaw4_FormatSigns.j6 k n zeros comma (B s) (ints b) ((dg + 1 : Nat) : Int) (pre.length : Int) begun (c.toNat : Int) t) R := by
        intro t ht hstrip
        have hnext := ih a' d (pre ++ [c]) (b ++ [c]) (dg + 1) true hlen' hpre hd hcomma (fun _ => Or.inr (by simp)) (fun x hx => ha x (List.mem_cons_of_mem _ hx)) hdd (by simp; omega) (by simp; omega)
          (fun bg => by
            have := hfin bg
            rw [List.cons_append, hstrip] at this
            rw [strip_true]
            simpa [Nat.add_assoc, Nat.add_comm, Nat.add_left_comm] using this)
        refine Ev.step (fun k => ?_) hnext
        simp only [scclaw4_FormatSigns.j6]
        have hll : (ints b).length < 140737488355328 := by rw [ints_len]; omega
        have hw : wrap64 ((pre.length : Int) + 1) = ((pre ++ [c]).length : Int) := by rw [w64 (by omega) (by omega)]; simp
        by_cases h1 : t = true
        · rw [if_pos h1, if_pos hll, ints_snoc, hw]
        · rw [if_neg h1, if_pos (ht.resolve_left h1), if_pos hll, ints_snoc, hw, ht.resolve_left h1]
      -- the sign is left out
      have hskip : begun = false → strip begun (c :: (a' ++ d)) = strip false (a' ++ d) → Ev (fun k => scclaw4_FormatSigns.j6 k n zeros comma (B s) (ints b) ((dg + 1 : Nat) : Int) (pre.length : Int) begun (c.toNat : Int) false) R := by
        intro hb hstrip
        subst hb
        have hnext := ih a' d (pre ++ [c]) b (dg + 1) false hlen' hpre hd hcomma (fun _ => Or.inr (by simp)) (fun x hx => ha x (List.mem_cons_of_mem _ hx)) hdd (by simp; omega) (by simp; omega)
          (fun bg => by
            have := hfin bg
            rw [List.cons_append, hstrip] at this
            simpa [Nat.add_assoc, Nat.add_comm, Nat.add_left_comm] using this)
        refine Ev.step (fun k => ?_) hnext
        simp only [scclaw4_FormatSigns.j6]
        have hw : wrap64 ((pre.length : Int) + 1) = ((pre ++ [c]).length : Int) := by rw [w64 (by omega) (by omega)]; simp
        rw [if_neg (by simp), if_neg (by simp), hw]
      have hdgw : wrap64 ((dg : Int) + 1) = ((dg + 1 : Nat) : Int) := by rw [w64 (by omega) (by omega)]; omega
      by_cases h48 : c = 48
      · have hj : Ev (fun k => scclaw4_FormatSigns.j6 k n zeros comma (B s) (ints b) ((dg + 1 : Nat) : Int) (pre.length : Int) begun (c.toNat : Int) (decide (a' ++ d = []))) R := by
          by_cases hl : a' ++ d = []
          · have hdec : decide (a' ++ d = []) = true := decide_eq_true hl
            rw [hdec]
            refine htake true (Or.inl rfl) ?_
            cases begun with
            | true => rfl
            | false => rw [strip, if_pos (Or.inr hl)]
          · have hdec : decide (a' ++ d = []) = false := decide_eq_false hl
            rw [hdec]
            cases hbg : begun with
            | true =>
              have := htake false (Or.inr hbg) (by rw [hbg]; rfl)
              rw [hbg] at this
              exact this
            | false =>
              have := hskip hbg (by rw [hbg, strip, if_neg (by intro h; rcases h with h | h; exact h h48; exact hl h)])
              rw [hbg] at this
              exact this
        refine Ev.step (fun k => ?_) hj
        simp only [scclaw4_FormatSigns.l1]
        rw [if_pos (by rw [size_B]; omega), if_pos (by omega), hbt, if_neg (c44 c hc), if_pos ((c48 c).2 h48), hdgw, hlast]
      · have hj := htake true (Or.inl rfl) (by
          cases begun with
          | true => rfl
          | false => rw [strip, if_pos (Or.inl h48)])
        refine Ev.step (fun k => ?_) hj
        simp only [scclaw4_FormatSigns.l1]
        rw [if_pos (by rw [size_B]; omega), if_pos (by omega), hbt, if_neg (c44 c hc), if_neg (fun h => h48 ((c48 c).1 h)), hdgw]
end Go.Proofs.YtojdheaolffabaaDoor.Fs
