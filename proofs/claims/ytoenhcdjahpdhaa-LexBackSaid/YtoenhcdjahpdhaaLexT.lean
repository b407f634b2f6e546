/- The laws LexValues and LexLines. -/
import Derived.Test.YtoenhcdjahpdhaaLexS
set_option linter.unusedVariables false
set_option linter.unusedSimpArgs false
set_option maxRecDepth 20000
set_option maxHeartbeats 1000000
namespace Go.Proofs.Ytoenhcdjahpdhaa
open Go Go.AM Go.Pl

def tot (t : List (Int × List UInt8)) : Nat := (t.map fun x => x.2.length).sum
theorem tot_cons (x : Int × List UInt8) (t : List (Int × List UInt8)) : tot (x :: t) = x.2.length + tot t := by simp [tot]
theorem tk_bound : ∀ (n : Nat) (l : List UInt8), l.length ≤ n → (tk l).length ≤ l.length ∧ tot (tk l) ≤ l.length
  | n, l, h => by
    by_cases c : l = []
    · subst c; rw [tk_nil]; exact ⟨Nat.le_refl _, Nat.le_refl _⟩
    · have hp : 0 < l.length := List.length_pos_iff.mpr c
      cases n with
      | zero => omega
      | succ n =>
        have hw : 1 ≤ wd l := by unfold wd; omega
        obtain ⟨i1, i2⟩ := tk_bound n (l.drop (wd l)) (by rw [List.length_drop]; omega)
        rw [List.length_drop] at i1 i2
        rw [tk_cons c, tot_cons, List.length_cons]
        simp only [List.length_take]
        omega
def GL (N : Nat) (l : List ByteArray) : Prop := l.length ≤ N ∧ ∀ x, x ∈ l → x ≠ ⟨#[]⟩ ∧ x.size ≤ N
def Good (N : Nat) (ls : List (List ByteArray)) : Prop := ls.length ≤ N ∧ ∀ l, l ∈ ls → GL N l
theorem fl_len (l : List ByteArray) (w : List UInt8) : l.length ≤ (fl l w).length ∧ (fl l w).length ≤ l.length + 1 := by unfold fl; split <;> simp
theorem fl_good {N : Nat} {l : List ByteArray} {w : List UInt8} (h : ∀ x, x ∈ l → x ≠ ⟨#[]⟩ ∧ x.size ≤ N) (hw : w.length ≤ N) : ∀ x, x ∈ fl l w → x ≠ ⟨#[]⟩ ∧ x.size ≤ N := by
  intro x hx
  unfold fl at hx
  split at hx
  · exact h x hx
  · rename_i c
    rcases List.mem_append.mp hx with hx | hx
    · exact h x hx
    · have : x = mkb w := by simpa using hx
      subst this
      exact ⟨fun hh => c (mkb_inj (b := []) hh), hw⟩
theorem LS_good (N : Nat) : ∀ (t : List (Int × List UInt8)) (ls : List (List ByteArray)) (l : List ByteArray) (w : List UInt8) (rem : Bool) (n : Int), ls.length + t.length + 1 ≤ N → l.length + t.length + 1 ≤ N → w.length + tot t ≤ N → (∀ y, y ∈ ls → GL N y) → (∀ x, x ∈ l → x ≠ ⟨#[]⟩ ∧ x.size ≤ N) →
    ((LS t ls l w rem n).2 = (0, 0) ∧ Good N (LS t ls l w rem n).1) ∨ ((LS t ls l w rem n).1 = [] ∧ (LS t ls l w rem n).2.2 = 2)
  | [], ls, l, w, rem, n, h1, h2, h3, h4, h5 => by
    unfold LS
    have hf := fl_len l w
    have hg := fl_good h5 (w := w) (by simp [tot] at h3; omega)
    simp at h1 h2
    refine .inl ⟨rfl, by simp; omega, fun y hy => ?_⟩
    rcases List.mem_append.mp hy with hy | hy
    · exact h4 y hy
    · have : y = fl l w := by simpa using hy
      subst this
      exact ⟨by omega, hg⟩
  | (r, pc) :: t, ls, l, w, rem, n, h1, h2, h3, h4, h5 => by
    unfold LS
    rw [tot_cons] at h3
    rw [List.length_cons] at h1 h2
    simp only at h3
    have hf := fl_len l w
    have hg := fl_good h5 (w := w) (by omega)
    split
    · exact LS_good N t ls l (w ++ pc) rem (n + 1) (by omega) (by omega) (by rw [List.length_append]; omega) h4 h5
    · split
      · refine LS_good N t (ls ++ [fl l w]) [] [] false (n + 1) (by simp; omega) (by simp; omega) (by simp; omega) (fun y hy => ?_) (fun x hx => by simp at hx)
        rcases List.mem_append.mp hy with hy | hy
        · exact h4 y hy
        · have : y = fl l w := by simpa using hy
          subst this
          exact ⟨by omega, hg⟩
      · split
        · exact LS_good N t ls (fl l w) [] rem (n + 1) (by omega) (by omega) (by simp; omega) h4 hg
        · split
          · exact LS_good N t ls (fl l w) [] true (n + 1) (by omega) (by omega) (by simp; omega) h4 hg
          · exact .inr ⟨rfl, rfl⟩
theorem lines_good (s : ByteArray) {N : Nat} (h : s.size + 1 ≤ N) : let r := LS (tk (D s)) [] [] [] false 0; (r.2 = (0, 0) ∧ Good N r.1) ∨ (r.1 = [] ∧ r.2.2 = 2) := by
  obtain ⟨h1, h2⟩ := tk_bound _ (D s) (Nat.le_refl _)
  rw [D_len] at h1 h2
  exact LS_good N _ [] [] [] false 0 (by simp; omega) (by simp; omega) (by simp; omega) (fun y hy => by simp at hy) (fun y hy => by simp at hy)
theorem idx_nat {α : Type} (l : List α) (k : Nat) : idx l (k : Int) = l[k]? := by simp [idx]
theorem get_some' {α : Type} {l : List α} {i : Nat} (h : i < l.length) : ∃ b, l[i]? = some b ∧ b ∈ l := ⟨l[i], List.getElem?_eq_getElem h, List.getElem_mem h⟩
theorem valuesL2 (rec1 : List (List ByteArray) → Int → Int → Option Bool) (ls : List (List ByteArray)) (j : Nat) (l : List ByteArray) (hl : GL 1000 l) (hj : j ≤ 1000) (hG : rec1 ls (ls.length : Nat) ((j + 1 : Nat) : Int) = some true) :
    ∀ (f i : Nat), l.length - i < f → i ≤ l.length → LexValues_L2 rec1 f ls (ls.length : Nat) j l (l.length : Nat) i = some true
  | 0, i, h, _ => by omega
  | f + 1, i, h, hi => by
    have hll := hl.1
    show LexValues_B2 rec1 (LexValues_L2 rec1 f) ls (ls.length : Nat) j l (l.length : Nat) i = some true
    unfold LexValues_B2
    by_cases c : i < l.length
    · obtain ⟨x, hx, hm⟩ := get_some' c
      obtain ⟨g1, g2⟩ := hl.2 x hm
      rw [lt_t c, cond_true, idx_nat, hx, bs, value_ok' x (by omega), bs, isnum_ok]
      simp only [bs]
      rw [str_ok, num_ok x (by omega), decide_eq_false g1]
      by_cases hn : (nb (ib x)).2 = 0
      · rw [if_pos hn, decide_eq_true hn]
        simp only [bs, show (true == false) = false from rfl, Bool.false_and, Bool.or_self, cond_false, hn, bne_self_eq_false, Bool.and_false, Bool.true_and]
        rw [inc i (by omega)]
        exact valuesL2 rec1 ls j l hl hj hG f (i + 1) (by omega) (by omega)
      · rw [if_neg hn, decide_eq_false hn]
        simp only [bs, show (false == true) = false from rfl, Bool.false_and, Bool.or_self, cond_false, decide_true, Bool.not_true, Bool.and_false, Bool.true_and, show ((nb (ib x)).2 == 0) = false from beq_eq_false_iff_ne.mpr hn]
        rw [inc i (by omega)]
        exact valuesL2 rec1 ls j l hl hj hG f (i + 1) (by omega) (by omega)
    · rw [lt_f c, cond_false, inc j (by omega)]
      exact hG
theorem valuesL1 (ls : List (List ByteArray)) (hls : Good 1000 ls) : ∀ (f j : Nat), ls.length - j < f → j ≤ ls.length → LexValues_L1 f ls (ls.length : Nat) j = some true
  | 0, j, h, _ => by omega
  | f + 1, j, h, hj => by
    have hl0 := hls.1
    show LexValues_B1 (LexValues_L1 f) ls (ls.length : Nat) j = some true
    unfold LexValues_B1
    by_cases c : j < ls.length
    · obtain ⟨l, hl, hm⟩ := get_some' c
      rw [lt_t c, cond_true, idx_nat, hl, bs]
      exact valuesL2 (LexValues_L1 f) ls j l (hls.2 l hm) (by omega) (valuesL1 ls hls f (j + 1) (by omega) (by omega)) FUEL 0 (by have := (hls.2 l hm).1; rw [FUEL_big]; omega) (by omega)
    · rw [lt_f c, cond_false, lawake_ok]; rfl
theorem LexValues_t (s : ByteArray) : LexValues_m s = some true := by
  unfold LexValues_m
  by_cases h : 300 < s.size
  · rw [decide_eq_true (show (300 : Int) < (s.size : Int) by omega), lawake_ok]; rfl
  · rw [gt300 h, cond_false, lines_ok s (by omega)]
    have hg := lines_good s (N := 1000) (by omega)
    simp only at hg
    generalize LS (tk (D s)) [] [] [] false 0 = r at *
    obtain ⟨ls, n, e⟩ := r
    simp only [bs]
    rcases hg with ⟨h1, h2⟩ | ⟨h1, h2⟩
    · simp only [Prod.mk.injEq] at h1 h2
      obtain ⟨rfl, rfl⟩ := h1
      rw [bne_self_eq_false, cond_false]
      exact valuesL1 ls h2 FUEL 0 (by have := h2.1; rw [FUEL_big]; omega) (by omega)
    · simp only at h1 h2
      subst h1 h2
      rw [lawake_ok]; rfl
theorem LexValues_w (s : ByteArray) (_ : s.size ≤ maxLen) : LexValues_m s = some true := LexValues_t s

theorem wordsL2 (rec1 : List (List ByteArray) → List (List ByteArray) → Int → Option Bool) (a : List (List ByteArray)) (j : Nat) (l : List ByteArray) (ha : a[j]? = some l) (hl : l.length ≤ 1000000) (hj : j ≤ 1000000) (hG : rec1 a a ((j + 1 : Nat) : Int) = some true) :
    ∀ (f i : Nat), l.length - i < f → i ≤ l.length → refWords_L2 rec1 f a a j i = some true
  | 0, i, h, _ => by omega
  | f + 1, i, h, hi => by
    show refWords_B2 rec1 (refWords_L2 rec1 f) a a j i = some true
    unfold refWords_B2
    rw [idx_nat, ha, bs]
    by_cases c : i < l.length
    · obtain ⟨x, hx, hm⟩ := get_some' c
      simp only [lt_t c, cond_true, bs, idx_nat, hx, decide_true, Bool.not_true, cond_false]
      rw [inc i (by omega)]
      exact wordsL2 rec1 a j l ha hl hj hG f (i + 1) (by omega) (by omega)
    · rw [lt_f c, cond_false, inc j (by omega)]
      exact hG
theorem wordsL1 (a : List (List ByteArray)) (h1 : a.length ≤ 1000000) (h2 : ∀ l, l ∈ a → l.length ≤ 1000000) : ∀ (f j : Nat), a.length - j < f → j ≤ a.length → refWords_L1 f a a j = some true
  | 0, j, h, _ => by omega
  | f + 1, j, h, hj => by
    show refWords_B1 (refWords_L1 f) a a j = some true
    unfold refWords_B1
    by_cases c : j < a.length
    · obtain ⟨l, hl, hm⟩ := get_some' c
      have := h2 l hm
      simp only [lt_t c, cond_true, idx_nat, hl, bs, bne_self_eq_false, cond_false]
      exact wordsL2 (refWords_L1 f) a j l hl this (by omega) (wordsL1 a h1 h2 f (j + 1) (by omega) (by omega)) FUEL 0 (by rw [FUEL_big]; omega) (by omega)
    · rw [lt_f c, cond_false]
theorem words_self (a : List (List ByteArray)) (h1 : a.length ≤ 1000000) (h2 : ∀ l, l ∈ a → l.length ≤ 1000000) : refWords_m a a = some true := by
  unfold refWords_m
  rw [bne_self_eq_false, cond_false]
  exact wordsL1 a h1 h2 FUEL 0 (by rw [FUEL_big]; omega) (by omega)

/-- How many runes stand ahead of the first that may not be; -1: there is none. -/
def BS : List (Int × List UInt8) → Int → Bool → Int
  | [], _, _ => -1
  | (r, _) :: t, n, note => let q := if r = 35 then true else if r = 10 then false else note
    if q = false ∧ r ≠ 10 ∧ r ≠ 32 ∧ r ≠ 9 ∧ isL r = false then n else BS t (n + 1) q
theorem badJ2 (rec1 : Int → Bool → ByteArray → Nat → Option Int) (n : Int) (q : Bool) (r : Int) (s : ByteArray) (p : Nat) (hn : 0 ≤ n ∧ n ≤ 1000000) : refBad_J2 rec1 n q r s p = if q = false ∧ r ≠ 10 ∧ r ≠ 32 ∧ r ≠ 9 ∧ isL r = false then some n else rec1 (n + 1) q s p := by
  unfold refBad_J2
  rw [show refOf_m r = some (isL r) from rfl, wr_i64 (by omega) (by omega)]
  by_cases c : (((!q && (r != 10)) && (r != 32)) && (r != 9)) = true
  · rw [c, BEq.rfl, gt_, bs, Bool.true_and]
    simp only [Bool.and_eq_true, Bool.not_eq_true', bne_iff_ne] at c
    obtain ⟨⟨⟨c1, c2⟩, c3⟩, c4⟩ := c
    cases hL : isL r with
    | true => rw [if_neg (by simp)]; rfl
    | false => rw [if_pos ⟨c1, c2, c3, c4, rfl⟩]; rfl
  · have c' : (((!q && (r != 10)) && (r != 32)) && (r != 9)) = false := by simpa using c
    rw [c', show (false == true) = false from rfl, gf_, bs, Bool.false_and, cond_false, if_neg]
    rintro ⟨x1, x2, x3, x4, _⟩
    apply c
    simp [x1, x2, x3, x4]
theorem badL (s : ByteArray) (hs : s.size ≤ 100000) : ∀ (f p : Nat) (n : Int) (note : Bool), s.size - p < f → 0 ≤ n ∧ n ≤ p → refBad_L1 f n note s p = some (BS (tk ((D s).drop p)) n note)
  | 0, p, _, _, h, _ => by omega
  | f + 1, p, n, note, h, hn => by
    show refBad_B1 (refBad_L1 f) n note s p = _
    unfold refBad_B1
    by_cases c : p < s.size
    · have h1 := decode_one s p c
      obtain ⟨hw, ht⟩ := tk_at c
      rw [decide_eq_true c, cond_true, ht]
      generalize hr : (((Utf8.decode s p).1 : Nat) : Int) = r at *
      generalize hq : (Utf8.decode s p).2 = q at *
      unfold BS refBad_J1
      have step : ∀ b, (if b = false ∧ r ≠ 10 ∧ r ≠ 32 ∧ r ≠ 9 ∧ isL r = false then some n else refBad_L1 f (n + 1) b s (p + q)) = some (if b = false ∧ r ≠ 10 ∧ r ≠ 32 ∧ r ≠ 9 ∧ isL r = false then n else BS (tk ((D s).drop (p + q))) (n + 1) b) := by
        intro b
        split
        · rfl
        · exact badL s hs f (p + q) (n + 1) b (by omega) (by omega)
      by_cases c1 : r = 10
      · have c2 : r ≠ 35 := by omega
        rw [show (r == 10) = true by rw [c1]; rfl, cond_true, show (r == 35) = false from beq_eq_false_iff_ne.mpr c2, cond_false, badJ2 _ _ _ _ _ _ ⟨hn.1, by omega⟩, step]
        simp only [if_neg c2, if_pos c1]
      · rw [show (r == 10) = false from beq_eq_false_iff_ne.mpr c1, cond_false]
        by_cases c2 : r = 35
        · rw [show (r == 35) = true by rw [c2]; rfl, cond_true, badJ2 _ _ _ _ _ _ ⟨hn.1, by omega⟩, step]
          simp only [if_pos c2]
        · rw [show (r == 35) = false from beq_eq_false_iff_ne.mpr c2, cond_false, badJ2 _ _ _ _ _ _ ⟨hn.1, by omega⟩, step]
          simp only [if_neg c2, if_neg c1]
    · rw [decide_eq_false c, cond_false, tk_end c]; rfl
theorem bad_ok (s : ByteArray) (hs : s.size ≤ 100000) : refBad_m s = some (BS (tk (D s)) 0 false) := by
  have := badL s hs FUEL 0 0 false (by rw [FUEL_big]; omega) (by omega)
  rw [List.drop_zero] at this
  exact this
theorem BS_ge : ∀ (t : List (Int × List UInt8)) (n : Int) (q : Bool), 0 ≤ n → BS t n q = -1 ∨ n ≤ BS t n q
  | [], n, q, _ => .inl rfl
  | (r, pc) :: t, n, q, h => by
    unfold BS
    simp only
    generalize (if r = 35 then true else if r = 10 then false else q) = z
    by_cases c : z = false ∧ r ≠ 10 ∧ r ≠ 32 ∧ r ≠ 9 ∧ isL r = false
    · rw [if_pos c]; exact .inr (Int.le_refl _)
    · rw [if_neg c]
      rcases BS_ge t (n + 1) z (by omega) with h' | h'
      · exact .inl h'
      · exact .inr (by omega)
/-- Lines and Bad: of one mind. -/
theorem LS_BS : ∀ (t : List (Int × List UInt8)) (ls : List (List ByteArray)) (l : List ByteArray) (w : List UInt8) (rem : Bool) (n : Int), 0 ≤ n → (BS t n rem = -1 → (LS t ls l w rem n).2 = (0, 0)) ∧ (BS t n rem ≠ -1 → LS t ls l w rem n = ([], BS t n rem, 2))
  | [], ls, l, w, rem, n, _ => ⟨fun _ => rfl, fun h => absurd rfl h⟩
  | (r, pc) :: t, ls, l, w, rem, n, hn => by
    unfold LS BS
    simp only
    have ih := fun ls l w rem => LS_BS t ls l w rem (n + 1) (by omega)
    by_cases h1 : (!rem && isL r) = true
    · have hrem : rem = false := by cases rem <;> simp at h1 ⊢
      have hL : isL r = true := by rw [hrem] at h1; simpa using h1
      have := isL_iff.mp hL
      rw [if_pos h1, if_neg (show ¬ r = 35 by omega), if_neg (show ¬ r = 10 by omega), if_neg (by rw [hL]; simp)]
      exact ih ls l (w ++ pc) rem
    · rw [if_neg h1]
      by_cases h2 : r = 10
      · rw [if_pos h2, if_neg (show ¬ r = 35 by omega), if_pos h2, if_neg (by simp [h2])]
        exact ih _ _ _ _
      · rw [if_neg h2, if_neg h2]
        by_cases h3 : r = 35
        · rw [if_pos h3, if_neg (show ¬ (true = false ∧ _) by simp)]
          by_cases hrem : rem = true
          · rw [if_pos (.inl hrem)]; rw [hrem]; exact ih _ _ _ _
          · rw [if_neg (by rintro (x | x | x) <;> first | exact hrem x | omega), if_pos h3]
            exact ih _ _ _ _
        · rw [if_neg h3]
          by_cases h4 : rem = true ∨ r = 32 ∨ r = 9
          · rw [if_pos h4, if_neg (by rintro ⟨x1, _, x2, x3, _⟩; rcases h4 with y | y | y <;> simp_all)]
            exact ih _ _ _ _
          · have g1 : rem = false := by cases rem <;> simp at h4 ⊢
            have g2 : r ≠ 32 := fun h => h4 (.inr (.inl h))
            have g3 : r ≠ 9 := fun h => h4 (.inr (.inr h))
            have g4 : isL r = false := by rw [g1] at h1; simpa using h1
            rw [if_neg h4, if_neg h3, if_pos ⟨g1, h2, g2, g3, g4⟩]
            exact ⟨fun h => absurd h (by omega), fun _ => rfl⟩
end Go.Proofs.Ytoenhcdjahpdhaa
