/- Plain Lean: integers that fit, texts as lists of runes. No program in sight. -/
import Derived.Test.YtibnmlbjahcjmaaAmB
import Derived.Laws.RangeAny
set_option linter.unusedSimpArgs false
set_option linter.unusedVariables false
namespace Go.Pl
theorem wr_i64 {n : Int} (h1 : -9223372036854775808 ≤ n) (h2 : n ≤ 9223372036854775807) : IntKind.i64.wrap n = n := by rw [IntKind.wrap_i64]; omega
theorem wr_u64 {n : Int} (h1 : 0 ≤ n) (h2 : n ≤ 18446744073709551615) : IntKind.u64.wrap n = n := by rw [IntKind.wrap_u64]; omega
theorem wr_i32 {n : Int} (h1 : -2147483648 ≤ n) (h2 : n ≤ 2147483647) : IntKind.i32.wrap n = n := by
  simp only [IntKind.wrap, IntKind.bits, IntKind.signed, Bool.true_and, decide_eq_true_eq, Nat.reduceSub, Int.reducePow]; split <;> rename_i h <;> simp at h <;> omega
theorem wr_u32 {n : Int} (h1 : 0 ≤ n) (h2 : n ≤ 4294967295) : IntKind.u32.wrap n = n := by
  simp only [IntKind.wrap, IntKind.bits, IntKind.signed, Bool.false_and, Bool.false_eq_true, if_false]; omega
theorem wr_u8 {n : Int} (h1 : 0 ≤ n) (h2 : n ≤ 255) : IntKind.u8.wrap n = n := by
  simp only [IntKind.wrap, IntKind.bits, IntKind.signed, Bool.false_and, Bool.false_eq_true, if_false]; omega

theorem byteAt_eq (s : ByteArray) (k : Nat) (h : k < s.size) : Go.AM.byteAt s k = (s[k]'h).toNat := by
  have h' : k < s.data.size := h
  simp only [Go.AM.byteAt]
  have e : s.data.toList.getD k 0 = s.data[k]'h' := by simp [List.getD, Array.getElem?_eq_getElem h']
  rw [e]; rfl
theorem decode_one (s : ByteArray) (pos : Nat) (h : pos < s.size) : 1 ≤ (Utf8.decode s pos).2 := by
  by_cases ha : (s[pos]'h).toNat < 128
  · rw [decode_ascii s pos h ha]; exact Nat.le_refl _
  · exact (decode_high s pos h (by omega)).2

/-- The runes of a text from a place on, each with its place. -/
def runesF (s : ByteArray) : Nat → Nat → List (Nat × Nat)
  | 0, _ => []
  | f + 1, pos => if pos < s.size then (pos, (Utf8.decode s pos).1) :: runesF s f (pos + (Utf8.decode s pos).2) else []
theorem runesF_enough (s : ByteArray) : ∀ f g pos, s.size ≤ f + pos → s.size ≤ g + pos → runesF s f pos = runesF s g pos := by
  intro f
  induction f with
  | zero =>
    intro g pos h _
    cases g with
    | zero => rfl
    | succ g => simp only [runesF]; rw [if_neg (by omega)]
  | succ f ih =>
    intro g pos h h'
    cases g with
    | zero => simp only [runesF]; rw [if_neg (by omega)]
    | succ g =>
      simp only [runesF]
      by_cases hlt : pos < s.size
      · rw [if_pos hlt, if_pos hlt]
        have := decode_one s pos hlt
        rw [ih g _ (by omega) (by omega)]
      · rw [if_neg hlt, if_neg hlt]
def runesOf (s : ByteArray) (pos : Nat) : List (Nat × Nat) := runesF s (s.size - pos) pos
theorem runesOf_yes {s : ByteArray} {pos : Nat} (h : pos < s.size) : runesOf s pos = (pos, (Utf8.decode s pos).1) :: runesOf s (pos + (Utf8.decode s pos).2) := by
  have h1 := decode_one s pos h
  unfold runesOf
  obtain ⟨f, hf⟩ : ∃ f, s.size - pos = f + 1 := ⟨s.size - pos - 1, by omega⟩
  rw [hf]
  simp only [runesF]
  rw [if_pos h, runesF_enough s f (s.size - (pos + (Utf8.decode s pos).2)) _ (by omega) (by omega)]
theorem runesOf_no {s : ByteArray} {pos : Nat} (h : ¬ pos < s.size) : runesOf s pos = [] := by
  unfold runesOf
  rw [show s.size - pos = 0 by omega]; rfl

/-- The bytes of a text from a place on. -/
def bys (s : ByteArray) (pos : Nat) : List Nat := (s.data.toList.drop pos).map UInt8.toNat
theorem bys_yes {s : ByteArray} {pos : Nat} (h : pos < s.size) : bys s pos = Go.AM.byteAt s pos :: bys s (pos + 1) := by
  have h' : pos < s.data.toList.length := by simpa using h
  unfold bys
  rw [List.drop_eq_getElem_cons h', List.map_cons, byteAt_eq s pos h]; rfl
theorem bys_no {s : ByteArray} {pos : Nat} (h : ¬ pos < s.size) : bys s pos = [] := by
  have h' : s.data.toList.length ≤ pos := by simpa using Nat.le_of_not_lt h
  unfold bys
  rw [List.drop_eq_nil_of_le h']; rfl

/-- Where all bytes are digits the runes are these bytes, and only there are all runes digits. -/
def dig (n : Nat) : Bool := decide (48 ≤ n) && decide (n ≤ 57)
theorem digs_runes (s : ByteArray) : ∀ k pos, s.size - pos = k → ((runesOf s pos).all (fun p => dig p.2) = (bys s pos).all dig) ∧ ((bys s pos).all dig = true → (runesOf s pos).map (·.2) = bys s pos) := by
  intro k
  induction k using Nat.strongRecOn with
  | _ k ih =>
    intro pos hk
    by_cases h : pos < s.size
    · rw [runesOf_yes h, bys_yes h]
      have h1 := decode_one s pos h
      by_cases ha : (s[pos]'h).toNat < 128
      · rw [decode_ascii s pos h ha, byteAt_eq s pos h]
        obtain ⟨i1, i2⟩ := ih (s.size - (pos + 1)) (by omega) (pos + 1) rfl
        constructor
        · simp only [List.all_cons, i1]
        · intro hh
          simp only [List.all_cons, Bool.and_eq_true] at hh
          simp only [List.map_cons, i2 hh.2]
      · have hd := (decode_high s pos h (by omega)).1
        have e1 : dig (Utf8.decode s pos).1 = false := by simp only [dig]; simp; omega
        have e2 : dig (Go.AM.byteAt s pos) = false := by rw [byteAt_eq s pos h]; simp only [dig]; simp; omega
        simp [List.all_cons, e1, e2]
    · rw [runesOf_no h, bys_no h]; simp
theorem bys_length (w : ByteArray) : (bys w 0).length = w.size := by
  have : ∀ (l : List UInt8), (l.map UInt8.toNat).length = l.length := fun l => List.length_map ..
  unfold bys; rw [this, List.drop_zero, Array.length_toList]; rfl
theorem bys_get (w : ByteArray) (i : Nat) (h : i < w.size) : (bys w 0)[i]? = some (Go.AM.byteAt w i) := by
  have h' : i < w.data.toList.length := by rw [Array.length_toList]; exact h
  unfold bys Go.AM.byteAt
  rw [List.drop_zero, List.getElem?_map, List.getElem?_eq_getElem h', List.getD_eq_getElem?_getD, List.getElem?_eq_getElem h']; rfl
theorem bys_to (w : ByteArray) (i : Nat) (h : i < w.size) : (bys w 0).take (i + 1) = (bys w 0).take i ++ [Go.AM.byteAt w i] := by
  rw [List.take_add_one, bys_get w i h]; rfl
theorem bys_all (w : ByteArray) : (bys w 0).take w.size = bys w 0 := by rw [← bys_length w, List.take_length]
end Go.Pl
