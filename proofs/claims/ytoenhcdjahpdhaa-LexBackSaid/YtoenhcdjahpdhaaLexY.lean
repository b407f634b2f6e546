/- The law LexBack. -/
import Derived.Test.YtoenhcdjahpdhaaLexX
set_option linter.unusedVariables false
set_option linter.unusedSimpArgs false
set_option maxRecDepth 20000
set_option maxHeartbeats 200000
namespace Go.Proofs.Ytoenhcdjahpdhaa
open Go Go.AM Go.Pl

theorem decodeL_sp (m : List UInt8) : ∀ l : List UInt8, l ≠ [] → Lib.decodeL (l ++ 32 :: m) = Lib.decodeL l
  | [], h => absurd rfl h
  | [a], _ => by
    rw [Lib.decodeL_N, Lib.decodeL_N]
    simp [Lib.decodeN]
  | [a, b], _ => by
    rw [Lib.decodeL_N, Lib.decodeL_N]
    simp [Lib.decodeN]
  | [a, b, c], _ => by
    rw [Lib.decodeL_N, Lib.decodeL_N]
    simp [Lib.decodeN]
  | a :: b :: c :: d :: l, _ => by
    rw [Lib.decodeL_N, Lib.decodeL_N]
    simp [Lib.decodeN]
theorem tk_sp (m : List UInt8) : ∀ (n : Nat) (l : List UInt8), l.length ≤ n → tk (l ++ 32 :: m) = tk l ++ (32, [32]) :: tk m
  | n, l, h => by
    by_cases c : l = []
    · subst c; rw [tk_nil, List.nil_append, List.nil_append, tk_ascii (by decide)]; rfl
    · have hp : 0 < l.length := List.length_pos_iff.mpr c
      cases n with
      | zero => omega
      | succ n =>
        have e := decodeL_sp m l c
        have hw : wd (l ++ 32 :: m) = wd l := by unfold wd; rw [e]
        have hle := wd_le l c
        have h1 : 1 ≤ wd l := by unfold wd; omega
        rw [tk_cons c, tk_cons (l := l ++ 32 :: m) (by simp), hw, e, List.take_append_of_le_length hle, List.drop_append_of_le_length hle, tk_sp m n _ (by rw [List.length_drop]; omega)]
        rfl
/-- What has been read, up to a place where a word may begin or end. -/
def Run (Z : List UInt8) (ls : List (List ByteArray)) (l : List ByteArray) (w : List UInt8) : Prop := ∃ n : Int, 0 ≤ n ∧ ∀ t', LS (tk Z ++ t') [] [] [] false 0 = LS t' ls l w false n
def Spl (Z : List UInt8) : Prop := ∀ W, tk (Z ++ W) = tk Z ++ tk W
theorem spl_nil : Spl [] := fun W => by rw [tk_nil]; rfl
theorem run_nil : Run [] [] [] [] := ⟨0, Int.le_refl _, fun t' => by rw [tk_nil]; rfl⟩
theorem spl_sp (Z : List UInt8) : Spl (Z ++ [32]) := fun W => by
  rw [List.append_assoc, show [32] ++ W = 32 :: W from rfl, tk_sp W _ Z (Nat.le_refl _), tk_sp [] _ Z (Nat.le_refl _), tk_nil, List.append_assoc]; rfl
theorem spl_ten (Z : List UInt8) : Spl (Z ++ [10]) := fun W => by
  rw [List.append_assoc, show [10] ++ W = 10 :: W from rfl, tk_app W _ Z (Nat.le_refl _), tk_app [] _ Z (Nat.le_refl _), tk_nil, List.append_assoc]; rfl
theorem LS_spc (ls : List (List ByteArray)) (l : List ByteArray) (w pc : List UInt8) (rem : Bool) (n : Int) (t : List (Int × List UInt8)) : LS ((32, pc) :: t) ls l w rem n = LS t ls (fl l w) [] rem (n + 1) := by
  conv => lhs; unfold LS
  rw [show isL 32 = false from rfl, Bool.and_false, if_neg (by simp), if_neg (by omega), if_pos (.inr (.inl rfl))]
theorem run_sp {Z : List UInt8} {ls : List (List ByteArray)} {l : List ByteArray} {w : List UInt8} (h : Run Z ls l w) : Run (Z ++ [32]) ls (fl l w) [] := by
  obtain ⟨n, hn, h⟩ := h
  refine ⟨n + 1, by omega, fun t' => ?_⟩
  rw [tk_sp [] _ Z (Nat.le_refl _), tk_nil, List.append_assoc, h, List.singleton_append, LS_spc]
theorem run_ten {Z : List UInt8} {ls : List (List ByteArray)} {l : List ByteArray} {w : List UInt8} (h : Run Z ls l w) : Run (Z ++ [10]) (ls ++ [fl l w]) [] [] := by
  obtain ⟨n, hn, h⟩ := h
  refine ⟨n + 1, by omega, fun t' => ?_⟩
  rw [tk_app [] _ Z (Nat.le_refl _), tk_nil, List.append_assoc, h, List.singleton_append, LS_ten]
theorem run_word {Z W : List UInt8} {ls : List (List ByteArray)} {l : List ByteArray} (h : Run Z ls l []) (hs : Spl Z) (hw : ∀ x, x ∈ tk W → isL x.1 = true) : Run (Z ++ W) ls l W := by
  obtain ⟨n, hn, h⟩ := h
  refine ⟨n + (tk W).length, by omega, fun t' => ?_⟩
  rw [hs, List.append_assoc, h, LS_word t' ls l (tk W) [] n hw, List.nil_append, tk_join _ _ (Nat.le_refl _)]
theorem run_end {Z : List UInt8} {ls : List (List ByteArray)} {l : List ByteArray} {w : List UInt8} (h : Run Z ls l w) : LS (tk Z) [] [] [] false 0 = (ls ++ [fl l w], 0, 0) := by
  obtain ⟨n, hn, h⟩ := h
  have := h []
  rw [List.append_nil] at this
  rw [this]; rfl
theorem LS_note (ls : List (List ByteArray)) (l : List ByteArray) : ∀ (t : List (Int × List UInt8)) (n : Int), (∀ x, x ∈ t → x.1 ≠ 10) → LS t ls l [] true n = (ls ++ [l], 0, 0)
  | [], n, h => rfl
  | (r, p) :: t, n, h => by
    have := h (r, p) List.mem_cons_self
    simp only at this
    unfold LS
    rw [Bool.not_true, Bool.false_and, if_neg (by simp), if_neg this, if_pos (.inl rfl)]
    exact LS_note ls (fl l []) t _ (fun x hx => h x (List.mem_cons_of_mem _ hx))
theorem tk_noten : ∀ (n : Nat) (l : List UInt8), l.length ≤ n → (∀ a, a ∈ l → a ≠ 10) → ∀ x, x ∈ tk l → x.1 ≠ 10
  | n, l, h, ha, x, hx => by
    by_cases c : l = []
    · subst c; rw [tk_nil] at hx; simp at hx
    · have hp : 0 < l.length := List.length_pos_iff.mpr c
      cases n with
      | zero => omega
      | succ n =>
        rw [tk_cons c] at hx
        rcases List.mem_cons.mp hx with rfl | hx
        · obtain ⟨a, l', rfl⟩ : ∃ a l', l = a :: l' := by cases l with | nil => exact absurd rfl c | cons a l' => exact ⟨a, l', rfl⟩
          have h10 := ha a List.mem_cons_self
          have h10' : a.toNat ≠ 10 := fun hh => h10 (UInt8.toNat_inj.mp hh)
          simp only
          rw [Lib.decodeL_N]
          simp only [List.getD_cons_zero]
          unfold Lib.decodeN
          split
          · simp only; omega
          · split
            · split <;> simp only <;> omega
            · split
              · split <;> simp only <;> omega
              · split
                · split <;> simp only <;> omega
                · simp only; omega
        · have h1 : 1 ≤ wd l := by unfold wd; omega
          exact tk_noten n _ (by rw [List.length_drop]; omega) (fun a h => ha a (List.mem_of_mem_drop h)) x hx
theorem run_note {Z N : List UInt8} {ls : List (List ByteArray)} {l : List ByteArray} {w : List UInt8} (h : Run Z ls l w) (hN : ∀ a, a ∈ N → a ≠ 10) : LS (tk (Z ++ 32 :: 35 :: N)) [] [] [] false 0 = (ls ++ [fl l w], 0, 0) := by
  obtain ⟨n, hn, h⟩ := h
  rw [tk_sp _ _ Z (Nat.le_refl _), h, LS_spc, tk_ascii (by decide)]
  show LS ((35, [35]) :: tk N) ls (fl l w) [] false (n + 1) = _
  unfold LS
  rw [show isL 35 = false from rfl, Bool.and_false, if_neg (by simp), if_neg (by omega), if_neg (by simp), if_pos rfl]
  exact LS_note ls _ _ _ (tk_noten _ _ (Nat.le_refl _) hN)

theorem backL4 (lines : List (List ByteArray)) (note s : ByteArray) (hn : note.size ≤ 40) (hs : s.size ≤ 10000) (hl : lines.length ≤ 12) (hll : ∀ l, l ∈ lines → l.length ≤ 12)
    (h1 : lexLines_m s = some (lines, 0, 0)) (h2 : (∀ a, a ∈ D note → a ≠ 10) → LS (tk (D s ++ 32 :: 35 :: D note)) [] [] [] false 0 = (lines, 0, 0)) : ∀ (f i : Nat), note.size - i < f → i ≤ note.size → (∀ a, a ∈ (D note).take i → a ≠ 10) → LexBack_L4 f lines note s (note.size : Nat) i = some true
  | 0, i, h, _, _ => by omega
  | f + 1, i, h, hi, hd_ => by
    show LexBack_B4 (LexBack_L4 f) lines note s (note.size : Nat) i = some true
    unfold LexBack_B4
    by_cases c : i < note.size
    · have hi' : i < (D note).length := by rw [D_len]; exact c
      have e : sidx note (i : Int) = some (((D note)[i].toNat : Nat) : Int) := by
        unfold sidx
        rw [if_pos (by omega), Int.toNat_natCast]
        unfold byteAt
        rw [show note.data.toList = D note from rfl, List.getD_eq_getElem?_getD, List.getElem?_eq_getElem hi']; rfl
      rw [lt_t c, cond_true, e, bs, lawake_ok]
      by_cases hb : (D note)[i] = 10
      · rw [hb]; rfl
      · have : ((((D note)[i].toNat : Nat) : Int) == 10) = false := by
          apply beq_eq_false_iff_ne.mpr
          intro hh
          apply hb
          apply UInt8.toNat_inj.mp
          show (D note)[i].toNat = 10
          omega
        rw [this, cond_false, inc i (by omega)]
        refine backL4 lines note s hn hs hl hll h1 h2 f (i + 1) (by omega) (by omega) (fun a ha => ?_)
        rw [List.take_add_one, List.getElem?_eq_getElem hi', Option.toList_some] at ha
        rcases List.mem_append.mp ha with ha | ha
        · exact hd_ a ha
        · have : a = (D note)[i] := by simpa using ha
          rw [this]; exact hb
    · rw [lt_f c, cond_false]
      have hall : ∀ a, a ∈ D note → a ≠ 10 := by
        rw [List.take_of_length_le (by rw [D_len]; omega)] at hd_
        exact hd_
      have e2 : (⟨#[32, 35]⟩ : ByteArray).size = 2 := rfl
      have e3 : (s ++ ⟨#[32, 35]⟩).size = s.size + 2 := by rw [ByteArray.size_append, e2]
      have w := words_self lines (by omega) (fun l hl => by have := hll l hl; omega)
      have h3 : lexLines_m ((s ++ ⟨#[32, 35]⟩) ++ note) = some (lines, 0, 0) := by
        rw [lines_ok _ (by rw [ByteArray.size_append, e3]; omega), D_app, D_app, List.append_assoc, show D ⟨#[32, 35]⟩ ++ D note = 32 :: 35 :: D note from rfl, h2 hall]
      simp only [h1, bs, sadd_ok (show s.size + (⟨#[32, 35]⟩ : ByteArray).size ≤ 9223372036854775807 by omega), sadd_ok (show (s ++ ⟨#[32, 35]⟩).size + note.size ≤ 9223372036854775807 by omega), h3, BEq.rfl, Bool.and_self, gt_, w, lawake_ok]
theorem backL3 (rec1 : List (List ByteArray) → ByteArray → ByteArray → List (List ByteArray) → Int → Int → Option Bool) (rec2 : List (List ByteArray) → ByteArray → ByteArray → List (List ByteArray) → Int → Int → List ByteArray → Int → Int → Option Bool) (lines : List (List ByteArray)) (note s : ByteArray) (k : Nat) (w : ByteArray) (j : Nat) (l : List ByteArray) (hw : w.size ≤ 40) (hs : s.size ≤ 10000) (hk : k ≤ 12)
    (hG : (∀ x, x ∈ tk (D w) → isL x.1 = true) → rec2 lines note ((if 0 < k then s ++ ⟨#[32]⟩ else s) ++ w) lines (lines.length : Nat) j l (l.length : Nat) ((k + 1 : Nat) : Int) = some true) :
    ∀ (f p : Nat), w.size - p < f → ((∀ x, x ∈ tk ((D w).drop p) → isL x.1 = true) → ∀ x, x ∈ tk (D w) → isL x.1 = true) → LexBack_L3 rec1 rec2 f lines note s k w lines (lines.length : Nat) j l (l.length : Nat) k w p = some true
  | 0, p, h, _ => by omega
  | f + 1, p, h, hp => by
    show LexBack_B3 rec1 rec2 (LexBack_L3 rec1 rec2 f) lines note s k w lines (lines.length : Nat) j l (l.length : Nat) k w p = some true
    unfold LexBack_B3
    by_cases c : p < w.size
    · have h1 := decode_one w p c
      obtain ⟨_, ht⟩ := tk_at c
      rw [decide_eq_true c, cond_true, show refOf_m _ = some (isL _) from rfl, bs, lawake_ok]
      cases hL : isL (((Utf8.decode w p).1 : Nat) : Int) with
      | false => rfl
      | true =>
        rw [Bool.not_true, cond_false]
        refine backL3 rec1 rec2 lines note s k w j l hw hs hk hG f _ (by omega) (fun h => hp (fun x hx => ?_))
        rw [ht] at hx
        rcases List.mem_cons.mp hx with rfl | hx
        · exact hL
        · exact h x hx
    · have hall : ∀ x, x ∈ tk (D w) → isL x.1 = true := hp (fun x hx => by rw [tk_end c] at hx; simp at hx)
      have hG := hG hall
      have e1 : (⟨#[32]⟩ : ByteArray).size = 1 := rfl
      have e2 : (s ++ ⟨#[32]⟩).size = s.size + 1 := by rw [ByteArray.size_append, e1]
      rw [decide_eq_false c, cond_false]
      unfold LexBack_J4 LexBack_J3
      by_cases hk0 : 0 < k
      · rw [if_pos hk0] at hG
        rw [decide_eq_true (show (0 : Int) < (k : Int) by omega), cond_true, sadd_ok (by omega), bs, sadd_ok (by omega), bs, inc k (by omega)]
        exact hG
      · rw [if_neg hk0] at hG
        rw [decide_eq_false (show ¬ (0 : Int) < (k : Int) by omega), cond_false, sadd_ok (by omega), bs, inc k (by omega)]
        exact hG
/-- The state ahead of the k-th word of a line. -/
def At (s : ByteArray) (ls : List (List ByteArray)) (l : List ByteArray) : Prop := ∃ l0 w, Run (D s) ls l0 w ∧ fl l0 w = l
theorem fl_nil (l : List ByteArray) : fl l [] = l := if_pos rfl
theorem backL2 (rec1 : List (List ByteArray) → ByteArray → ByteArray → List (List ByteArray) → Int → Int → Option Bool) (lines : List (List ByteArray)) (note : ByteArray) (j : Nat) (l : List ByteArray) (ls : List (List ByteArray)) (hl : l.length ≤ 12) (hj : j ≤ 12) (B : Nat) (hB : B ≤ 8000)
    (hG : ∀ s, s.size ≤ B + 41 * l.length → At s ls l → rec1 lines note s lines (lines.length : Nat) ((j + 1 : Nat) : Int) = some true) :
    ∀ (f k : Nat) (s : ByteArray), l.length - k < f → k ≤ l.length → s.size ≤ B + 41 * k → At s ls (l.take k) → (k = 0 → Spl (D s) ∧ Run (D s) ls [] []) → LexBack_L2 rec1 f lines note s lines (lines.length : Nat) j l (l.length : Nat) k = some true
  | 0, k, _, h, _, _, _, _ => by omega
  | f + 1, k, s, h, hk, hs, ha, h0 => by
    show LexBack_B2 rec1 (LexBack_L2 rec1 f) lines note s lines (lines.length : Nat) j l (l.length : Nat) k = some true
    unfold LexBack_B2
    by_cases c : k < l.length
    · obtain ⟨w, hw, hm⟩ := get_some' c
      rw [lt_t c, cond_true, idx_nat, hw, bs, lawake_ok]
      by_cases g : (decide (w = ⟨#[]⟩) || decide (40 < (w.size : Int))) = true
      · rw [g]; rfl
      · have g' : (decide (w = ⟨#[]⟩) || decide (40 < (w.size : Int))) = false := by simpa using g
        have g2 := g'
        rw [Bool.or_eq_false_iff, decide_eq_false_iff_not, decide_eq_false_iff_not] at g2
        obtain ⟨g2, g3⟩ := g2
        have hwne : D w ≠ [] := fun hh => g2 (by rw [← mkb_D w, hh]; rfl)
        have e1 : (⟨#[32]⟩ : ByteArray).size = 1 := rfl
        have e2 : (s ++ ⟨#[32]⟩).size = s.size + 1 := by rw [ByteArray.size_append, e1]
        rw [g', cond_false]
        refine backL3 rec1 (LexBack_L2 rec1 f) lines note s k w j l (by omega) (by omega) (by omega) (fun hall => ?_) FUEL 0 (by rw [FUEL_big]; omega) (fun h => by rw [List.drop_zero] at h; exact h)
        have htk : l.take (k + 1) = l.take k ++ [w] := by rw [List.take_add_one, hw, Option.toList_some]
        refine backL2 rec1 lines note j l ls hl hj B hB hG f (k + 1) _ (by omega) (by omega) ?_ ?_ (by omega)
        · by_cases hk0 : 0 < k
          · rw [if_pos hk0, ByteArray.size_append, e2]; omega
          · rw [if_neg hk0, ByteArray.size_append]; omega
        · by_cases hk0 : 0 < k
          · obtain ⟨l0, w0, r1, r2⟩ := ha
            have r3 := run_sp r1
            rw [r2] at r3
            have r4 := run_word r3 (spl_sp _) hall
            rw [if_pos hk0]
            refine ⟨l.take k, D w, ?_, ?_⟩
            · rw [D_app, D_app]; exact r4
            · rw [htk]; unfold fl; rw [if_neg hwne]; rfl
          · obtain ⟨p1, p2⟩ := h0 (by omega)
            have r4 := run_word p2 p1 hall
            rw [if_neg hk0]
            refine ⟨[], D w, ?_, ?_⟩
            · rw [D_app]; exact r4
            · rw [htk, show k = 0 by omega]; unfold fl; rw [if_neg hwne]; rfl
    · have : k = l.length := by omega
      subst this
      rw [lt_f c, cond_false]
      unfold LexBack_J1
      rw [inc j (by omega)]
      rw [List.take_length] at ha
      exact hG s hs ha
theorem backL1 (lines : List (List ByteArray)) (note : ByteArray) (hn : note.size ≤ 40) (hl : lines.length ≤ 12) : ∀ (f j : Nat) (s : ByteArray), lines.length - j < f → j ≤ lines.length → s.size ≤ 500 * j → (∀ l, l ∈ lines.take j → l.length ≤ 12) →
    (j = 0 → s = ⟨#[]⟩) → (0 < j → ∃ ls l, ls ++ [l] = lines.take j ∧ At s ls l) → 0 < lines.length → LexBack_L1 f lines note s lines (lines.length : Nat) j = some true
  | 0, j, _, h, _, _, _, _, _, _ => by omega
  | f + 1, j, s, h, hj, hs, hll, h0, h1, hpos => by
    show LexBack_B1 (LexBack_L1 f) lines note s lines (lines.length : Nat) j = some true
    unfold LexBack_B1
    by_cases c : j < lines.length
    · obtain ⟨l, hl', hm⟩ := get_some' c
      rw [lt_t c, cond_true, idx_nat, hl', bs, lawake_ok]
      by_cases g : 12 < l.length
      · rw [decide_eq_true (show (12 : Int) < (l.length : Int) by omega)]; rfl
      · have htk : lines.take (j + 1) = lines.take j ++ [l] := by rw [List.take_add_one, hl', Option.toList_some]
        have e1 : (⟨#[10]⟩ : ByteArray).size = 1 := rfl
        have e2 : (s ++ ⟨#[10]⟩).size = s.size + 1 := by rw [ByteArray.size_append, e1]
        have nxt : ∀ s', s'.size ≤ (500 * j + 1) + 41 * l.length → At s' (lines.take j) l → LexBack_L1 f lines note s' lines (lines.length : Nat) ((j + 1 : Nat) : Int) = some true := by
          intro s' hs' ha
          refine backL1 lines note hn hl f (j + 1) s' (by omega) (by omega) (by omega) (fun y hy => ?_) (by omega) (fun _ => ⟨lines.take j, l, htk.symm, ha⟩) hpos
          rw [htk] at hy
          rcases List.mem_append.mp hy with hy | hy
          · exact hll y hy
          · have : y = l := by simpa using hy
            subst this; omega
        rw [decide_eq_false (show ¬ (12 : Int) < (l.length : Int) by omega), cond_false]
        unfold LexBack_J2
        by_cases hj0 : 0 < j
        · obtain ⟨ls, l1, q1, l0, w0, q2, q3⟩ := h1 hj0
          have r := run_ten q2
          rw [q3, q1] at r
          rw [decide_eq_true (show (0 : Int) < (j : Int) by omega), cond_true, sadd_ok (by omega), bs]
          have r' : Run (D (s ++ ⟨#[10]⟩)) (lines.take j) [] [] := by rw [D_app]; exact r
          have at0 : At (s ++ ⟨#[10]⟩) (lines.take j) (l.take 0) := ⟨[], [], r', by rw [fl_nil, List.take_zero]⟩
          have sp0 : Spl (D (s ++ ⟨#[10]⟩)) := by rw [D_app]; exact spl_ten _
          have fu : l.length - 0 < FUEL := by rw [FUEL_big]; omega
          have sz0 : (s ++ ⟨#[10]⟩).size ≤ 500 * j + 1 + 41 * 0 := by omega
          have bl : 500 * j + 1 ≤ 8000 := by omega
          have fin := backL2 (LexBack_L1 f) lines note j l (lines.take j) (Nat.le_of_not_lt g) (by omega) (500 * j + 1) bl nxt FUEL 0 (s ++ ⟨#[10]⟩) fu (Nat.zero_le _) sz0 at0 (fun _ => ⟨sp0, r'⟩)
          rw [Int.natCast_zero] at fin
          exact fin
        · have hz : j = 0 := by omega
          subst hz
          have hse := h0 rfl
          subst hse
          rw [decide_eq_false (show ¬ (0 : Int) < ((0 : Nat) : Int) by omega), cond_false]
          have at0 : At ⟨#[]⟩ (lines.take 0) (l.take 0) := ⟨[], [], by rw [List.take_zero]; exact run_nil, by rw [fl_nil, List.take_zero]⟩
          have sp0 : Spl (D ⟨#[]⟩) ∧ Run (D ⟨#[]⟩) (lines.take 0) [] [] := ⟨spl_nil, by rw [List.take_zero]; exact run_nil⟩
          have sz0 : (⟨#[]⟩ : ByteArray).size ≤ 500 * 0 + 1 + 41 * 0 := by decide
          have fu : l.length - 0 < FUEL := by rw [FUEL_big]; omega
          have fin := backL2 (LexBack_L1 f) lines note 0 l (lines.take 0) (Nat.le_of_not_lt g) (by omega) (500 * 0 + 1) (by omega) nxt FUEL 0 ⟨#[]⟩ fu (Nat.zero_le _) sz0 at0 (fun _ => sp0)
          rw [Int.natCast_zero] at fin ⊢
          exact fin
    · have : j = lines.length := by omega
      subst this
      rw [lt_f c, cond_false]
      obtain ⟨ls, l1, q1, l0, w0, q2, q3⟩ := h1 hpos
      rw [List.take_length] at q1 hll
      have hz := run_end q2
      rw [q3, q1] at hz
      refine backL4 lines note s hn (by omega) hl hll (by rw [lines_ok s (by omega), hz]) (fun hN => ?_) FUEL 0 (by rw [FUEL_big]; omega) (by omega) (fun a ha => by simp at ha)
      rw [run_note q2 hN, q3, q1]
theorem LexBack_t (lines : List (List ByteArray)) (note : ByteArray) : LexBack_m lines note = some true := by
  unfold LexBack_m
  by_cases h : ((decide (12 < (lines.length : Int)) || ((lines.length : Int) == 0)) || decide (40 < (note.size : Int))) = true
  · rw [h, lawake_ok]; rfl
  · have h' : ((decide (12 < (lines.length : Int)) || ((lines.length : Int) == 0)) || decide (40 < (note.size : Int))) = false := by simpa using h
    have h2 := h'
    rw [Bool.or_eq_false_iff, Bool.or_eq_false_iff, decide_eq_false_iff_not, decide_eq_false_iff_not, beq_eq_false_iff_ne] at h2
    obtain ⟨⟨a1, a2⟩, a3⟩ := h2
    rw [h', cond_false]
    exact backL1 lines note (by omega) (by omega) FUEL 0 ⟨#[]⟩ (by rw [FUEL_big]; omega) (by omega) (by show (0 : Nat) ≤ _; omega) (fun l hl => by simp at hl) (fun _ => rfl) (by omega) (by omega)
theorem LexBack_w (lines : List (List ByteArray)) (note : ByteArray) (_ : (∀ y, y ∈ lines → (∀ z, z ∈ y → z.size ≤ maxLen) ∧ y.length ≤ maxLen) ∧ lines.length ≤ maxLen) (_ : note.size ≤ maxLen) : LexBack_m lines note = some true := LexBack_t lines note
end Go.Proofs.Ytoenhcdjahpdhaa
