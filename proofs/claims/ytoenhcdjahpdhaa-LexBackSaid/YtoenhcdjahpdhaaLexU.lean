/- The laws LexLines and LexParts. -/
import Derived.Test.YtoenhcdjahpdhaaLexT
set_option linter.unusedVariables false
set_option linter.unusedSimpArgs false
set_option maxRecDepth 20000
set_option maxHeartbeats 1000000
namespace Go.Proofs.Ytoenhcdjahpdhaa
open Go Go.AM Go.Pl

theorem decodeL_app (m : List UInt8) : ∀ l : List UInt8, l ≠ [] → Lib.decodeL (l ++ 10 :: m) = Lib.decodeL l
  | [], h => absurd rfl h
  | [a], _ => by
    rw [Lib.decodeL_N, Lib.decodeL_N]
    simp [Lib.decodeN]
  | [a, b], _ => by
    rw [Lib.decodeL_N, Lib.decodeL_N]
    simp [Lib.decodeN]
  | [a, b, c], _ => by
    rw [Lib.decodeL_N, Lib.decodeL_N]
    simp [Lib.decodeN]
  | a :: b :: c :: d :: l, _ => by
    rw [Lib.decodeL_N, Lib.decodeL_N]
    simp [Lib.decodeN]
theorem wd_le (l : List UInt8) (h : l ≠ []) : wd l ≤ l.length := by
  have hp : 0 < l.length := List.length_pos_iff.mpr h
  unfold wd
  rw [Lib.decodeL_N]
  unfold Lib.decodeN
  split
  · simp only; omega
  · split
    · split <;> simp only <;> omega
    · split
      · split <;> simp only <;> omega
      · split
        · split <;> simp only <;> omega
        · simp only; omega
theorem tk_ten (m : List UInt8) : tk (10 :: m) = (10, [10]) :: tk m := by
  have e : Lib.decodeL (10 :: m) = (10, 1) := by rw [Lib.decodeL_N]; simp [Lib.decodeN]
  have hw : wd (10 :: m) = 1 := by unfold wd; rw [e]; rfl
  rw [tk_cons (by simp), hw, e]
  simp
theorem tk_app (m : List UInt8) : ∀ (n : Nat) (l : List UInt8), l.length ≤ n → tk (l ++ 10 :: m) = tk l ++ (10, [10]) :: tk m
  | n, l, h => by
    by_cases c : l = []
    · subst c; rw [tk_nil, List.nil_append, List.nil_append, tk_ten]
    · have hp : 0 < l.length := List.length_pos_iff.mpr c
      cases n with
      | zero => omega
      | succ n =>
        have e := decodeL_app m l c
        have hw : wd (l ++ 10 :: m) = wd l := by unfold wd; rw [e]
        have hle := wd_le l c
        have h1 : 1 ≤ wd l := by unfold wd; omega
        rw [tk_cons c, tk_cons (l := l ++ 10 :: m) (by simp), hw, e, List.take_append_of_le_length hle, List.drop_append_of_le_length hle, tk_app m n _ (by rw [List.length_drop]; omega)]
        rfl
theorem D_app (s t : ByteArray) : D (s ++ t) = D s ++ D t := by simp [D]
def RS : List (Int × List UInt8) → List (List ByteArray) → List ByteArray → List UInt8 → Bool → List (List ByteArray)
  | [], out, _, _, _ => out
  | (r, pc) :: t, out, l, w, note =>
    let q := if r = 35 then true else note
    if (isL r && !q) = true then RS t out l (w ++ pc) q
    else
      let l' := if w ≠ [] ∧ (q = false ∨ r = 35) then l ++ [mkb w] else l
      let w' := if w ≠ [] ∧ (q = false ∨ r = 35) then [] else w
      if r = 10 then RS t (out ++ [l']) [] w' false else RS t out l' w' q
theorem LS_RS : ∀ (t : List (Int × List UInt8)) (ls : List (List ByteArray)) (l : List ByteArray) (w : List UInt8) (rem : Bool) (n : Int), 0 ≤ n → (rem = true → w = []) → BS t n rem = -1 → RS (t ++ [(10, [10])]) ls l w rem = (LS t ls l w rem n).1
  | [], ls, l, w, rem, n, hn, hr, hb => by
    rw [List.nil_append]
    unfold LS RS RS
    simp only
    rw [if_neg (show ¬ (10 : Int) = 35 by omega), show isL 10 = false from rfl, Bool.false_and, if_neg (by simp), if_pos trivial]
    unfold fl
    by_cases hw : w = []
    · rw [if_neg (by simp [hw]), if_pos hw]
    · have : rem = false := by cases rem; rfl; exact absurd (hr rfl) hw
      rw [if_pos ⟨hw, .inl this⟩, if_neg hw]
  | (r, pc) :: t, ls, l, w, rem, n, hn, hr, hb => by
    rw [List.cons_append]
    unfold BS at hb
    unfold LS RS
    simp only at hb ⊢
    have ih := fun ls l w rem => LS_RS t ls l w rem (n + 1) (by omega)
    have efl : ∀ q : Bool, (q = false ∨ r = 35 ∨ w = []) → ((if w ≠ [] ∧ (q = false ∨ r = 35) then l ++ [mkb w] else l) = fl l w) ∧ ((if w ≠ [] ∧ (q = false ∨ r = 35) then [] else w) = []) := by
      intro q hq
      unfold fl
      by_cases hw : w = []
      · rw [if_neg (by simp [hw]), if_pos hw, if_neg (by simp [hw])]; exact ⟨rfl, hw⟩
      · have : q = false ∨ r = 35 := by rcases hq with h | h | h; exact .inl h; exact .inr h; exact absurd h hw
        rw [if_pos ⟨hw, this⟩, if_neg hw, if_pos ⟨hw, this⟩]; exact ⟨rfl, rfl⟩
    by_cases h1 : (!rem && isL r) = true
    · have hrem : rem = false := by cases rem <;> simp at h1 ⊢
      have hL : isL r = true := by rw [hrem] at h1; simpa using h1
      have := isL_iff.mp hL
      rw [if_neg (show ¬ r = 35 by omega), if_neg (show ¬ r = 10 by omega), if_neg (by rw [hL]; simp)] at hb
      rw [if_pos h1, if_neg (show ¬ r = 35 by omega), if_pos (by rw [hL, hrem]; rfl)]
      exact ih ls l (w ++ pc) rem (fun h => by rw [hrem] at h; cases h) hb
    · rw [if_neg h1]
      by_cases h2 : r = 10
      · rw [if_neg (show ¬ r = 35 by omega), if_pos h2, if_neg (by simp [h2])] at hb
        rw [if_pos h2, if_neg (show ¬ r = 35 by omega), if_neg (by rw [h2]; simp [isL]), if_pos h2]
        obtain ⟨e1, e2⟩ := efl rem (by cases hrem : rem; exact .inl rfl; exact .inr (.inr (hr hrem)))
        rw [e1, e2]
        exact ih _ _ _ _ (fun _ => rfl) hb
      · rw [if_neg h2, if_neg h2]
        by_cases h3 : r = 35
        · rw [if_pos h3, if_neg (by simp)] at hb
          rw [if_pos h3, if_neg (by simp)]
          obtain ⟨e1, e2⟩ := efl true (.inr (.inl h3))
          rw [e1, e2]
          by_cases hrem : rem = true
          · rw [if_pos (.inl hrem), hrem]
            exact ih _ _ _ _ (fun _ => rfl) hb
          · rw [if_neg (by rintro (x | x | x) <;> first | exact hrem x | omega), if_pos h3]
            exact ih _ _ _ _ (fun _ => rfl) hb
        · rw [if_neg h3, if_neg h2] at hb
          rw [if_neg h3]
          by_cases h4 : rem = true ∨ r = 32 ∨ r = 9
          · rw [if_neg (by rintro ⟨x1, _, x2, x3, _⟩; rcases h4 with y | y | y <;> simp_all)] at hb
            have e0 : (isL r && !rem) = false := by
              rcases h4 with y | y | y
              · rw [y]; simp
              · rw [y]; rfl
              · rw [y]; rfl
            rw [if_pos h4, if_neg (by rw [e0]; simp)]
            obtain ⟨e1, e2⟩ := efl rem (by cases hrem : rem; exact .inl rfl; exact .inr (.inr (hr hrem)))
            rw [e1, e2]
            exact ih _ _ _ _ (fun _ => rfl) hb
          · have g1 : rem = false := by cases rem <;> simp at h4 ⊢
            have g2 : r ≠ 32 := fun h => h4 (.inr (.inl h))
            have g3 : r ≠ 9 := fun h => h4 (.inr (.inr h))
            have g4 : isL r = false := by rw [g1] at h1; simpa using h1
            rw [if_pos ⟨g1, h2, g2, g3, g4⟩] at hb
            omega
theorem encF : ∀ c : Fin 1000, isL (c.val : Nat) = true → Utf8.encode (c.val : Nat) = mkb (Lib.encodeRune (c.val : Nat)) := by decide +kernel
theorem enc_tok {s : ByteArray} {p : Nat} (h : p < s.size) (hL : isL (((Utf8.decode s p).1 : Nat) : Int) = true) : Utf8.encode (((Utf8.decode s p).1 : Nat) : Int) = mkb (((D s).drop p).take (Utf8.decode s p).2) := by
  have hr := isL_iff.mp hL
  have e := Lib.decodeL_drop s p
  have hne : (D s).drop p ≠ [] := by
    intro hh
    have := congrArg List.length hh
    rw [List.length_drop, D_len] at this; simp at this; omega
  have e' : Lib.decodeL ((D s).drop p) = Utf8.decode s p := e
  have k := Lib.encode_decode ((D s).drop p) hne (by rw [e']; omega)
  rw [e'] at k
  rw [← k]
  exact encF ⟨(Utf8.decode s p).1, by omega⟩ hL
theorem rlJ2 (rec1 : List (List ByteArray) → List ByteArray → ByteArray → Bool → ByteArray → Nat → Option (List (List ByteArray))) (out : List (List ByteArray)) (l : List ByteArray) (w : ByteArray) (q : Bool) (r : Int) (s : ByteArray) (p : Nat) (h : out.length ≤ 1000000) : refLines_J2 rec1 out l w q r s p = if r = 10 then rec1 (out ++ [l]) [] w false s p else rec1 out l w q s p := by
  unfold refLines_J2
  by_cases c : r = 10
  · rw [if_pos c, show (r == 10) = true by rw [c]; rfl, cond_true, app_ok _ _ (by simp; omega), bs]
  · rw [if_neg c, show (r == 10) = false from beq_eq_false_iff_ne.mpr c, cond_false]
theorem mkb_app (a b : List UInt8) : mkb a ++ mkb b = mkb (a ++ b) := by
  apply ByteArray.ext; simp [mkb]
theorem rlinesL (s : ByteArray) (hs : s.size ≤ 100000) : ∀ (f p : Nat) (out : List (List ByteArray)) (l : List ByteArray) (w : List UInt8) (note : Bool), s.size - p < f → out.length ≤ p → l.length ≤ p → w.length ≤ 4 * p → p ≤ 1000000 →
    refLines_L1 f out l (mkb w) note s p = some (RS (tk ((D s).drop p)) out l w note)
  | 0, p, _, _, _, _, h, _, _, _, _ => by omega
  | f + 1, p, out, l, w, note, h, h1, h2, h3, hp => by
    show refLines_B1 (refLines_L1 f) out l (mkb w) note s p = _
    unfold refLines_B1
    by_cases c : p < s.size
    · have d1 := decode_one s p c
      have d4 : (Utf8.decode s p).2 ≤ 4 := by
        unfold Utf8.decode; simp only; split <;> (try split) <;> (try split) <;> (try split) <;> (try split) <;> (try split) <;> (try split) <;> simp
      obtain ⟨hw, ht⟩ := tk_at c
      have henc := fun h => enc_tok (s := s) (p := p) c h
      rw [decide_eq_true c, cond_true, ht]
      generalize hr : (((Utf8.decode s p).1 : Nat) : Int) = r at *
      generalize hq : (Utf8.decode s p).2 = q at *
      have step : ∀ z : Bool, refLines_J1 (refLines_L1 f) out l (mkb w) z r s (p + q) = some (if (isL r && !z) = true then RS (tk ((D s).drop (p + q))) out l (w ++ ((D s).drop p).take q) z
          else if r = 10 then RS (tk ((D s).drop (p + q))) (out ++ [if w ≠ [] ∧ (z = false ∨ r = 35) then l ++ [mkb w] else l]) [] (if w ≠ [] ∧ (z = false ∨ r = 35) then [] else w) false
            else RS (tk ((D s).drop (p + q))) out (if w ≠ [] ∧ (z = false ∨ r = 35) then l ++ [mkb w] else l) (if w ≠ [] ∧ (z = false ∨ r = 35) then [] else w) z) := by
        intro z
        unfold refLines_J1
        rw [show refOf_m r = some (isL r) from rfl, bs]
        by_cases cl : (isL r && !z) = true
        · have hL : isL r = true := by rw [Bool.and_eq_true] at cl; exact cl.1
          have hlen : (((D s).drop p).take q).length ≤ 4 := by rw [List.length_take]; omega
          rw [if_pos cl, cl, cond_true, henc hL, sadd_ok (by rw [mkb_size, mkb_size]; omega), bs, mkb_app]
          exact rlinesL s hs f (p + q) _ _ _ _ (by omega) (by omega) (by omega) (by rw [List.length_append]; omega) (by omega)
        · have cl' : (isL r && !z) = false := by simpa using cl
          rw [if_neg cl, cl', cond_false]
          by_cases cw : w ≠ [] ∧ (z = false ∨ r = 35)
          · have e : ((!decide (mkb w = ⟨#[]⟩)) && ((!z) || (r == 35))) = true := by
              rw [decide_eq_false (p := mkb w = ⟨#[]⟩) (fun hh => cw.1 (mkb_inj (b := []) hh))]
              rcases cw.2 with x | x <;> simp [x]
            rw [e, cond_true, app_ok _ _ (by simp; omega), bs, rlJ2 _ _ _ _ _ _ _ _ (by omega), if_pos cw, if_pos cw]
            by_cases c10 : r = 10
            · rw [if_pos c10, if_pos c10]
              exact rlinesL s hs f (p + q) _ _ [] _ (by omega) (by simp; omega) (by simp) (by simp) (by omega)
            · rw [if_neg c10, if_neg c10]
              exact rlinesL s hs f (p + q) _ _ [] _ (by omega) (by omega) (by simp; omega) (by simp) (by omega)
          · have e : ((!decide (mkb w = ⟨#[]⟩)) && ((!z) || (r == 35))) = false := by
              rw [Bool.and_eq_false_iff]
              by_cases hw0 : w = []
              · left; rw [decide_eq_true (by rw [hw0]; rfl)]; rfl
              · right
                rw [Bool.or_eq_false_iff]
                refine ⟨?_, ?_⟩
                · cases z; exact absurd ⟨hw0, .inl rfl⟩ cw; rfl
                · exact beq_eq_false_iff_ne.mpr fun hh => cw ⟨hw0, .inr hh⟩
            rw [e, cond_false, rlJ2 _ _ _ _ _ _ _ _ (by omega), if_neg cw, if_neg cw]
            by_cases c10 : r = 10
            · rw [if_pos c10, if_pos c10]
              exact rlinesL s hs f (p + q) _ _ _ _ (by omega) (by simp; omega) (by simp) (by omega) (by omega)
            · rw [if_neg c10, if_neg c10]
              exact rlinesL s hs f (p + q) _ _ _ _ (by omega) (by omega) (by omega) (by omega) (by omega)
      unfold RS
      by_cases c35 : r = 35
      · rw [show (r == 35) = true by rw [c35]; rfl, cond_true, step]
        simp only [if_pos c35]
      · rw [show (r == 35) = false from beq_eq_false_iff_ne.mpr c35, cond_false, step]
        simp only [if_neg c35]
    · rw [decide_eq_false c, cond_false, tk_end c]; rfl
theorem rlines_ok (s : ByteArray) (hs : s.size ≤ 50000) : refLines_m s = some (RS (tk (D s) ++ [(10, [10])]) [] [] [] false) := by
  unfold refLines_m
  have e1 : (⟨#[10]⟩ : ByteArray).size = 1 := rfl
  rw [sadd_ok (by omega), bs]
  have := rlinesL (s ++ ⟨#[10]⟩) (by rw [ByteArray.size_append]; omega) FUEL 0 [] [] [] false (by rw [FUEL_big, ByteArray.size_append]; omega) (by simp) (by simp) (by simp) (by omega)
  rw [List.drop_zero, D_app, show D ⟨#[10]⟩ = [10] from rfl, tk_app [] _ _ (Nat.le_refl _), tk_nil] at this
  exact this
theorem LexLines_t (s : ByteArray) : LexLines_m s = some true := by
  unfold LexLines_m
  by_cases h : 300 < s.size
  · rw [decide_eq_true (show (300 : Int) < (s.size : Int) by omega), lawake_ok]; rfl
  · rw [gt300 h, cond_false, lines_ok s (by omega), bad_ok s (by omega), rlines_ok s (by omega), lawake_ok]
    obtain ⟨k1, k2⟩ := LS_BS (tk (D s)) [] [] [] false 0 (by omega)
    have k3 := LS_RS (tk (D s)) [] [] [] false 0 (by omega) (fun _ => rfl)
    have hg := lines_good s (N := 1000) (by omega)
    simp only at hg
    have hge := BS_ge (tk (D s)) 0 false (by omega)
    generalize LS (tk (D s)) [] [] [] false 0 = r at *
    generalize BS (tk (D s)) 0 false = b at *
    generalize RS (tk (D s) ++ [(10, [10])]) [] [] [] false = z at *
    obtain ⟨ls, n, e⟩ := r
    by_cases hb : b = -1
    · have k1 := k1 hb
      have k3 := k3 hb
      simp only [Prod.mk.injEq] at k1
      obtain ⟨rfl, rfl⟩ := k1
      simp only at k3
      subst k3
      rcases hg with ⟨_, hg⟩ | ⟨_, hg⟩
      · have hg : Good 1000 z := hg
        have w := words_self z (by have := hg.1; omega) (fun l hl => by have := (hg.2 l hl).1; omega)
        simp only [bs, decide_eq_false (show ¬ (0 : Int) ≤ b by omega), cond_false, w, BEq.rfl, Bool.and_self, gt_]
      · simp at hg
    · have k2 := k2 hb
      simp only [Prod.mk.injEq] at k2
      obtain ⟨rfl, rfl, rfl⟩ := k2
      simp only [bs, decide_eq_true (show (0 : Int) ≤ n by omega), cond_true, List.length_nil, Int.natCast_zero, BEq.rfl, Bool.and_self, gt_]
theorem LexLines_w (s : ByteArray) (_ : s.size ≤ maxLen) : LexLines_m s = some true := LexLines_t s
end Go.Proofs.Ytoenhcdjahpdhaa
