/- lex.Lines: what it computes, over the runes of a text and their bytes. -/
import Derived.Test.YtoenhcdjahpdhaaLexR
import Derived.Lib.MapLaws
set_option linter.unusedVariables false
set_option linter.unusedSimpArgs false
set_option maxRecDepth 20000
set_option maxHeartbeats 1000000
namespace Go.Proofs.Ytoenhcdjahpdhaa
open Go Go.AM Go.Pl

def wd (l : List UInt8) : Nat := (Lib.decodeL l).2 - 1 + 1
/-- The runes of a list of bytes, each with its bytes. -/
def tk (l : List UInt8) : List (Int × List UInt8) := if h : l = [] then [] else (((Lib.decodeL l).1 : Int), l.take (wd l)) :: tk (l.drop (wd l))
termination_by l.length
decreasing_by
  have : 0 < l.length := List.length_pos_iff.mpr h
  rw [List.length_drop]; unfold wd; omega
theorem tk_nil : tk [] = [] := by rw [tk]; rfl
theorem tk_cons {l : List UInt8} (h : l ≠ []) : tk l = (((Lib.decodeL l).1 : Int), l.take (wd l)) :: tk (l.drop (wd l)) := by rw [tk, dif_neg h]
def mkb (l : List UInt8) : ByteArray := ⟨l.toArray⟩
def D (s : ByteArray) : List UInt8 := s.data.toList
theorem D_len (s : ByteArray) : (D s).length = s.size := rfl
theorem mkb_D (s : ByteArray) : mkb (D s) = s := rfl
theorem D_mkb (l : List UInt8) : D (mkb l) = l := rfl
theorem mkb_inj {a b : List UInt8} (h : mkb a = mkb b) : a = b := by have := congrArg D h; exact this
theorem mkb_size (a : List UInt8) : (mkb a).size = a.length := rfl
theorem ext_D (s : ByteArray) (a b : Nat) : s.extract a b = mkb (((D s).drop a).take (b - a)) := by
  apply ByteArray.ext
  apply Array.toList_inj.mp
  show (s.extract a b).data.toList = _
  rw [ByteArray.data_extract]
  simp [mkb, D, Array.toList_extract, List.extract_eq_take_drop]
theorem tk_at {s : ByteArray} {p : Nat} (h : p < s.size) : wd ((D s).drop p) = (Utf8.decode s p).2 ∧ tk ((D s).drop p) = (((Utf8.decode s p).1 : Int), ((D s).drop p).take (Utf8.decode s p).2) :: tk ((D s).drop (p + (Utf8.decode s p).2)) := by
  have e := Lib.decodeL_drop s p
  have h1 := decode_one s p h
  have hw : wd ((D s).drop p) = (Utf8.decode s p).2 := by
    unfold wd; rw [show Lib.decodeL ((D s).drop p) = _ from e]; omega
  have hne : (D s).drop p ≠ [] := by
    intro hh
    have := congrArg List.length hh
    rw [List.length_drop, D_len] at this; simp at this; omega
  refine ⟨hw, ?_⟩
  rw [tk_cons hne, hw, List.drop_drop, show Lib.decodeL ((D s).drop p) = _ from e]
theorem tk_end {s : ByteArray} {p : Nat} (h : ¬ p < s.size) : tk ((D s).drop p) = [] := by
  rw [List.drop_eq_nil_of_le (by rw [D_len]; omega), tk_nil]

def isL (r : Int) : Bool := (((decide (97 ≤ r)) && (decide (r ≤ 122))) || ((decide (48 ≤ r)) && (decide (r ≤ 57)))) || ((decide (945 ≤ r)) && (decide (r ≤ 969)))
theorem isL_iff {r : Int} : isL r = true ↔ (97 ≤ r ∧ r ≤ 122) ∨ (48 ≤ r ∧ r ≤ 57) ∨ (945 ≤ r ∧ r ≤ 969) := by simp [isL, or_assoc]
/-- A line, with the word ahead, if there is one. -/
def fl (l : List ByteArray) (w : List UInt8) : List ByteArray := if w = [] then l else l ++ [mkb w]
def LS : List (Int × List UInt8) → List (List ByteArray) → List ByteArray → List UInt8 → Bool → Int → List (List ByteArray) × Int × Int
  | [], ls, l, w, _, _ => (ls ++ [fl l w], 0, 0)
  | (r, pc) :: t, ls, l, w, rem, n =>
    if (!rem && isL r) = true then LS t ls l (w ++ pc) rem (n + 1)
    else if r = 10 then LS t (ls ++ [fl l w]) [] [] false (n + 1)
    else if rem = true ∨ r = 32 ∨ r = 9 then LS t ls (fl l w) [] rem (n + 1)
    else if r = 35 then LS t ls (fl l w) [] true (n + 1)
    else ([], n, 2)
def Open (s : ByteArray) (p : Nat) (start : Int) (w : List UInt8) : Prop := (start = -1 ∧ w = []) ∨ (∃ a : Nat, start = a ∧ a < p ∧ a < s.size ∧ w = ((D s).drop a).take (p - a))
theorem Open.ne {s : ByteArray} {p : Nat} {a : Nat} (h1 : a < p) (h2 : a < s.size) : ((D s).drop a).take (p - a) ≠ [] := by
  intro h
  have := congrArg List.length h
  rw [List.length_take, List.length_drop, D_len] at this
  simp at this; omega
theorem J1_ok (rec1 : ByteArray → List (List ByteArray) → List ByteArray → Int → Bool → Int → ByteArray → Nat → Option ((List (List ByteArray)) × Int × Int)) (s : ByteArray) (ls : List (List ByteArray)) (l : List ByteArray) (rem : Bool) (n : Int) (i r : Int) (q : Nat) (h : (!rem && isL r) = false) (hn : 0 ≤ n ∧ n ≤ 1000000) (hls : ls.length ≤ 1000000) :
    lexLines_J1 rec1 s ls l (-1) rem n i r (!rem && isL r) s q = (if r = 10 then rec1 s (ls ++ [l]) [] (-1) false (n + 1) s q else if rem = true ∨ r = 32 ∨ r = 9 then rec1 s ls l (-1) rem (n + 1) s q else if r = 35 then rec1 s ls l (-1) true (n + 1) s q else some ([], n, 2)) := by
  unfold lexLines_J1 lexLines_J2
  rw [wr_i64 (n := n + 1) (by omega) (by omega), h]
  by_cases c1 : r = 10
  · rw [if_pos c1, c1, app_ok _ _ (by simp; omega)]; rfl
  · rw [if_neg c1, show (r == 10) = false from beq_eq_false_iff_ne.mpr c1, cond_false]
    by_cases c2 : rem = true ∨ r = 32 ∨ r = 9
    · have : ((rem || (r == 32)) || (r == 9)) = true := by simp [or_assoc]; exact c2
      rw [if_pos c2, this, cond_true]
    · have : ((rem || (r == 32)) || (r == 9)) = false := by
        rw [← Bool.not_eq_true]; simp [or_assoc]; simpa using c2
      rw [if_neg c2, this, cond_false]
      by_cases c3 : r = 35
      · rw [if_pos c3, c3]; rfl
      · rw [if_neg c3, show (r == 35) = false from beq_eq_false_iff_ne.mpr c3]; rfl
theorem isL_ok (r : Int) : isLetter_m r = some (isL r) := rfl
theorem lettO (rem : Bool) (r : Int) : gopt ((!rem) == true) false (isLetter_m r) = some (if rem = true then false else isL r) := by cases rem <;> rfl
theorem lettB (rem : Bool) (r : Int) : ((!rem) && (if rem = true then false else isL r)) = (!rem && isL r) := by cases rem <;> rfl
theorem linesL (s : ByteArray) (hs : s.size ≤ 100000) : ∀ (f p : Nat) (ls : List (List ByteArray)) (l : List ByteArray) (start : Int) (w : List UInt8) (rem : Bool) (n : Int), s.size - p < f → Open s p start w → 0 ≤ n → n ≤ p → ls.length ≤ p → l.length ≤ p → p ≤ 1000000 →
    lexLines_L1 f s ls l start rem n s p = some (LS (tk ((D s).drop p)) ls l w rem n)
  | 0, p, _, _, _, _, _, _, h, _, _, _, _, _, _ => by omega
  | f + 1, p, ls, l, start, w, rem, n, h, ho, n0, n1, hls, hl, hp => by
    show lexLines_B1 (lexLines_L1 f) s ls l start rem n s p = _
    unfold lexLines_B1
    by_cases c : p < s.size
    · have h1 := decode_one s p c
      have h4 : (Utf8.decode s p).2 ≤ 4 := by
        unfold Utf8.decode; simp only; split <;> (try split) <;> (try split) <;> (try split) <;> (try split) <;> (try split) <;> (try split) <;> simp
      obtain ⟨hw, ht⟩ := tk_at c
      rw [decide_eq_true c, cond_true, lettO, bs, lettB, ht]
      generalize hr : (((Utf8.decode s p).1 : Nat) : Int) = r at *
      generalize hq : (Utf8.decode s p).2 = q at *
      have rest : ∀ (l' : List ByteArray), l'.length ≤ p + 1 → (!rem && isL r) = false →
          lexLines_J1 (lexLines_L1 f) s ls l' (-1) rem n (p : Int) r (!rem && isL r) s (p + q) = some (if r = 10 then LS (tk ((D s).drop (p + q))) (ls ++ [l']) [] [] false (n + 1) else if rem = true ∨ r = 32 ∨ r = 9 then LS (tk ((D s).drop (p + q))) ls l' [] rem (n + 1) else if r = 35 then LS (tk ((D s).drop (p + q))) ls l' [] true (n + 1) else ([], n, 2)) := by
        intro l' hl' hlet
        rw [J1_ok _ s ls l' rem n p r (p + q) hlet ⟨n0, by omega⟩ (by omega)]
        have hop : Open s (p + q) (-1) [] := .inl ⟨rfl, rfl⟩
        by_cases c1 : r = 10
        · rw [if_pos c1, if_pos c1]
          exact linesL s hs f (p + q) _ _ _ _ _ _ (by omega) hop (by omega) (by omega) (by simp; omega) (by simp) (by omega)
        · rw [if_neg c1, if_neg c1]
          by_cases c2 : rem = true ∨ r = 32 ∨ r = 9
          · rw [if_pos c2, if_pos c2]
            exact linesL s hs f (p + q) _ _ _ _ _ _ (by omega) hop (by omega) (by omega) (by omega) (by omega) (by omega)
          · rw [if_neg c2, if_neg c2]
            by_cases c3 : r = 35
            · rw [if_pos c3, if_pos c3]
              exact linesL s hs f (p + q) _ _ _ _ _ _ (by omega) hop (by omega) (by omega) (by omega) (by omega) (by omega)
            · rw [if_neg c3, if_neg c3]
      cases hlet : (!rem && isL r) with
      | true =>
        rw [Bool.not_true, Bool.and_false, cond_false]
        have hrem : rem = false := by cases rem <;> simp at hlet ⊢
        have hL : isL r = true := by rw [hrem] at hlet; simpa using hlet
        have hLr := isL_iff.mp hL
        unfold LS
        rw [hlet, if_pos rfl]
        unfold lexLines_J1 lexLines_J2
        rw [show (r == 10) = false from beq_eq_false_iff_ne.mpr (by omega), show (r == 32) = false from beq_eq_false_iff_ne.mpr (by omega), show (r == 9) = false from beq_eq_false_iff_ne.mpr (by omega), show (r == 35) = false from beq_eq_false_iff_ne.mpr (by omega), hrem, wr_i64 (n := n + 1) (by omega) (by omega)]
        simp only [cond_false, Bool.or_self, Bool.not_true]
        rcases ho with ⟨rfl, rfl⟩ | ⟨a, rfl, ha1, ha2, rfl⟩
        · rw [decide_eq_true (show (-1 : Int) < 0 by omega), cond_true]
          exact linesL s hs f (p + q) _ _ _ _ _ _ (by omega) (.inr ⟨p, rfl, by omega, c, by rw [List.nil_append, show p + q - p = q by omega]⟩) (by omega) (by omega) (by omega) (by omega) (by omega)
        · rw [decide_eq_false (show ¬ (a : Int) < 0 by omega), cond_false]
          refine linesL s hs f (p + q) _ _ _ _ _ _ (by omega) (.inr ⟨a, rfl, by omega, ha2, ?_⟩) (by omega) (by omega) (by omega) (by omega) (by omega)
          rw [show p + q - a = (p - a) + q by omega, List.take_add, List.drop_drop, show a + (p - a) = p by omega]
      | false =>
        rw [Bool.not_false, Bool.and_true]
        unfold LS
        rw [hlet, if_neg (by simp)]
        have rest' := fun l' hl' => rest l' hl' hlet
        rw [hlet] at rest'
        rcases ho with ⟨rfl, rfl⟩ | ⟨a, rfl, ha1, ha2, rfl⟩
        · rw [decide_eq_false (show ¬ (0 : Int) ≤ -1 by omega), cond_false, rest' l (by omega)]
          simp only [fl, if_true]
        · have hne := Open.ne (s := s) ha1 ha2
          have es : sslc s (a : Int) (p : Int) = some (mkb (((D s).drop a).take (p - a))) := by
            unfold sslc; rw [if_pos (by omega), Int.toNat_natCast, Int.toNat_natCast, ext_D]
          rw [decide_eq_true (show (0 : Int) ≤ (a : Int) by omega), cond_true, es, bs, app_ok _ _ (by simp; omega), bs, rest' _ (by simp; omega)]
          simp only [fl, if_neg hne]
    · rw [decide_eq_false c, cond_false, tk_end c]
      unfold LS lexLines_J3
      rcases ho with ⟨rfl, rfl⟩ | ⟨a, rfl, ha1, ha2, rfl⟩
      · rw [decide_eq_false (show ¬ (0 : Int) ≤ -1 by omega), cond_false, app_ok _ _ (by simp; omega)]
        simp [fl]
      · have hne := Open.ne (s := s) ha1 ha2
        have e0 : ((D s).drop a).take (s.size - a) = ((D s).drop a).take (p - a) := by
          rw [List.take_of_length_le (by rw [List.length_drop, D_len]; omega), List.take_of_length_le (by rw [List.length_drop, D_len]; omega)]
        have es : sslc s (a : Int) (s.size : Int) = some (mkb (((D s).drop a).take (p - a))) := by
          unfold sslc; rw [if_pos (by omega), Int.toNat_natCast, Int.toNat_natCast, ext_D, e0]
        rw [decide_eq_true (show (0 : Int) ≤ (a : Int) by omega), cond_true, es, bs, app_ok _ _ (by simp; omega), bs, app_ok _ _ (by simp; omega)]
        simp [fl, hne]
theorem lines_ok (s : ByteArray) (hs : s.size ≤ 100000) : lexLines_m s = some (LS (tk (D s)) [] [] [] false 0) := by
  have := linesL s hs FUEL 0 [] [] (-1) [] false 0 (by rw [FUEL_big]; omega) (.inl ⟨rfl, rfl⟩) (by omega) (by omega) (by simp) (by simp) (by omega)
  rw [List.drop_zero] at this
  exact this
end Go.Proofs.Ytoenhcdjahpdhaa
