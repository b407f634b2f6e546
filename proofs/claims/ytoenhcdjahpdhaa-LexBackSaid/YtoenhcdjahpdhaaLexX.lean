/- The law LexHex. -/
import Derived.Test.YtoenhcdjahpdhaaLexV
set_option linter.unusedVariables false
set_option linter.unusedSimpArgs false
set_option maxRecDepth 20000
set_option maxHeartbeats 1000000
namespace Go.Proofs.Ytoenhcdjahpdhaa
open Go Go.AM Go.Pl

theorem tk_join : ∀ (n : Nat) (l : List UInt8), l.length ≤ n → (tk l).flatMap (·.2) = l
  | n, l, h => by
    by_cases c : l = []
    · subst c; rw [tk_nil]; rfl
    · have hp : 0 < l.length := List.length_pos_iff.mpr c
      cases n with
      | zero => omega
      | succ n =>
        have h1 : 1 ≤ wd l := by unfold wd; omega
        rw [tk_cons c, List.flatMap_cons, tk_join n _ (by rw [List.length_drop]; omega), List.take_append_drop]
theorem LS_word (t' : List (Int × List UInt8)) (ls : List (List ByteArray)) (l : List ByteArray) : ∀ (t : List (Int × List UInt8)) (w : List UInt8) (n : Int), (∀ x, x ∈ t → isL x.1 = true) → LS (t ++ t') ls l w false n = LS t' ls l (w ++ t.flatMap (·.2)) false (n + t.length)
  | [], w, n, h => by simp
  | (r, p) :: t, w, n, h => by
    rw [List.cons_append]
    conv => lhs; unfold LS
    have := h (r, p) List.mem_cons_self
    simp only at this
    rw [this, if_pos (show (!false && true) = true from rfl), LS_word t' ls l t _ _ (fun x hx => h x (List.mem_cons_of_mem _ hx)), List.flatMap_cons, List.append_assoc, List.length_cons]
    congr 1; omega
theorem tk_ascii {a : UInt8} {l : List UInt8} (h : a.toNat < 128) : tk (a :: l) = ((a.toNat : Int), [a]) :: tk l := by
  have e : Lib.decodeL (a :: l) = (a.toNat, 1) := by rw [Lib.decodeL_N]; simp [Lib.decodeN, h]
  have hw : wd (a :: l) = 1 := by unfold wd; rw [e]; rfl
  rw [tk_cons (by simp), hw, e]
  simp
theorem tk_letters : ∀ l : List UInt8, (∀ a, a ∈ l → a.toNat < 128 ∧ isL (a.toNat : Int) = true) → ∀ x, x ∈ tk l → isL x.1 = true
  | [], _, x, hx => by rw [tk_nil] at hx; simp at hx
  | a :: l, h, x, hx => by
    obtain ⟨h1, h2⟩ := h a List.mem_cons_self
    rw [tk_ascii h1] at hx
    rcases List.mem_cons.mp hx with rfl | hx
    · exact h2
    · exact tk_letters l (fun y hy => h y (List.mem_cons_of_mem _ hy)) x hx
theorem D_hex {l : List Int} (hl : BB l) : ∀ a, a ∈ D (bstr (l.flatMap hx)) → a.toNat < 128 ∧ isL (a.toNat : Int) = true := by
  intro a ha
  have : ∃ x ∈ l.flatMap hx, a = UInt8.ofNat x.toNat := by
    simp only [D, bstr, List.mem_map] at ha
    obtain ⟨x, h1, h2⟩ := ha
    exact ⟨x, h1, h2.symm⟩
  obtain ⟨x, h1, rfl⟩ := this
  obtain ⟨b, hb, h2⟩ := List.mem_flatMap.mp h1
  have hr := hl b hb
  have key : ∀ n : Fin 16, (UInt8.ofNat (hd (n.val : Nat)).toNat).toNat < 128 ∧ isL ((UInt8.ofNat (hd (n.val : Nat)).toNat).toNat : Int) = true := by decide +kernel
  have key' : ∀ n : Int, 0 ≤ n → n < 16 → (UInt8.ofNat (hd n).toNat).toNat < 128 ∧ isL ((UInt8.ofNat (hd n).toNat).toNat : Int) = true := by
    intro n h0 h1
    have := key ⟨n.toNat, by omega⟩
    simp only [Int.toNat_of_nonneg h0] at this
    exact this
  simp only [hx, List.mem_cons, List.not_mem_nil, or_false] at h2
  rcases h2 with rfl | rfl <;> exact key' _ (by omega) (by omega)
theorem lines_letters (s : ByteArray) (hs : s.size ≤ 100000) (h : ∀ a, a ∈ D s → a.toNat < 128 ∧ isL (a.toNat : Int) = true) : lexLines_m s = some ([fl [] (D s)], 0, 0) := by
  rw [lines_ok s hs]
  have := LS_word [] [] [] (tk (D s)) [] 0 (tk_letters _ h)
  rw [List.append_nil, tk_join _ _ (Nat.le_refl _), List.nil_append] at this
  rw [this]; rfl
/-- A number's digits. -/
def dv : List Int → Int
  | [] => 0
  | c :: l => (c - 48) * 10 ^ l.length + dv l
theorem dv_cons (c : Int) (l : List Int) : dv (c :: l) = (c - 48) * 10 ^ l.length + dv l := rfl
theorem p10 (n : Nat) : (0 : Int) < 10 ^ n := Int.pow_pos (by omega)
theorem dv_pos : ∀ l : List Int, dgs l = true → 0 ≤ dv l
  | [], _ => Int.le_refl _
  | c :: l, h => by
    rw [dgs_cons, Bool.and_eq_true, Bool.and_eq_true, decide_eq_true_eq, decide_eq_true_eq] at h
    have := dv_pos l h.2
    have := Int.mul_nonneg (show 0 ≤ c - 48 by omega) (Int.le_of_lt (p10 l.length))
    rw [dv_cons]; omega
theorem nbF_dv : ∀ (l : List Int) (n : Int), dgs l = true → 0 ≤ n → n * 10 ^ l.length + dv l ≤ 18446744073709551615 → nbF l n = (n * 10 ^ l.length + dv l, 0)
  | [], n, _, _, _ => by simp [nbF, dv]
  | c :: l, n, h, hn, hv => by
    rw [dgs_cons, Bool.and_eq_true, Bool.and_eq_true, decide_eq_true_eq, decide_eq_true_eq] at h
    have hp := dv_pos l h.2
    have h10 := p10 l.length
    have e : n * 10 ^ (c :: l).length + dv (c :: l) = (n * 10 + (c - 48)) * 10 ^ l.length + dv l := by
      rw [dv_cons, List.length_cons, Int.pow_succ]; grind
    rw [e] at hv ⊢
    have hge : n * 10 + (c - 48) ≤ (n * 10 + (c - 48)) * 10 ^ l.length := by
      have := Int.mul_le_mul_of_nonneg_left (show (1 : Int) ≤ 10 ^ l.length by omega) (show 0 ≤ n * 10 + (c - 48) by omega)
      omega
    unfold nbF
    rw [if_neg (by omega)]
    exact nbF_dv l _ h.2 (by omega) hv
theorem hexL1 (s h t : ByteArray) (n : Int) (ls : List (List ByteArray)) (hn : 0 ≤ n ∧ n ≤ 18446744073709551615) (hls : ls = [fl [] (D h)]) (ht : t = s) (hh : (h.size : Int) = IntKind.i64.wrap (2 * (s.size : Int))) (hne : s ≠ ⟨#[]⟩ → D h ≠ []) :
    ∀ (f k : Nat) (ds : List Int) (m : Int), k < f → 0 ≤ m → m < 10 ^ k → m ≤ 18446744073709551615 → dgs ds = true → ds.length + k ≤ 21 → (k = 0 → ds ≠ []) → m * 10 ^ ds.length + dv ds = n → (ds = [] ∨ 0 < m ∨ ds[0]? ≠ some 48 ∨ ds = [48]) →
      LexHex_L1 f s n h t 0 ls 0 (bstr ds) m = some true
  | 0, k, _, _, h, _, _, _, _, _, _, _, _ => by omega
  | f + 1, k, ds, m, hk, m0, mk_, mm, hd_, hl, hk0, hv, hlead => by
    show LexHex_B1 (LexHex_L1 f) s n h t 0 ls 0 (bstr ds) m = some true
    unfold LexHex_B1
    have hBB : BB ds := by
      intro x hx
      simp only [dgs, List.all_eq_true, Bool.and_eq_true, decide_eq_true_eq] at hd_
      have := hd_ x hx; omega
    have ew : decide (bstr ds = ⟨#[]⟩) = decide (ds = []) := by
      apply decide_eq_decide.mpr
      rw [empty_iff, ib_bstr hBB]
    rw [ew]
    by_cases c : 0 < m ∨ ds = []
    · have e : (decide (0 < m) || decide (ds = [])) = true := by simpa using c
      have d0 : 0 ≤ m % 10 ∧ m % 10 < 10 := by omega
      have e1 : IntKind.u8.wrap (IntKind.u64.wrap (48 + Int.tmod m 10)) = 48 + m % 10 := by
        rw [Int.tmod_eq_emod_of_nonneg m0, wr_u64 (by omega) (by omega), wr_u8 (by omega) (by omega)]
      have e2 : IntKind.u64.wrap (Int.tdiv m 10) = m / 10 := by
        rw [Int.tdiv_eq_ediv_of_nonneg m0, wr_u64 (by omega) (by omega)]
      rw [e, cond_true, e1, e2, sadd_ok (by rw [bstr_size, bstr_size, List.length_singleton]; omega), bs, ← bstr_app, List.singleton_append]
      have hk1 : 1 ≤ k := by
        rcases Nat.eq_zero_or_pos k with h0 | h0
        · have := hk0 h0
          rcases c with c | c
          · rw [h0] at mk_; simp at mk_; omega
          · exact absurd c this
        · exact h0
      obtain ⟨k', rfl⟩ : ∃ k', k = k' + 1 := ⟨k - 1, by omega⟩
      refine hexL1 s h t n ls hn hls ht hh hne f k' ((48 + m % 10) :: ds) (m / 10) (by omega) (by omega) ?_ (by omega) ?_ (by rw [List.length_cons]; omega) (fun _ => by simp) ?_ ?_
      · rw [Int.pow_succ] at mk_; omega
      · rw [dgs_cons, hd_, decide_eq_true (show 48 ≤ 48 + m % 10 by omega), decide_eq_true (show 48 + m % 10 ≤ 57 by omega)]; rfl
      · rw [← hv, List.length_cons, Int.pow_succ, dv_cons]
        have : m = m / 10 * 10 + m % 10 := by omega
        generalize m / 10 = q at *
        generalize m % 10 = z at *
        subst this
        grind
      · by_cases hm : 0 < m / 10
        · exact .inr (.inl hm)
        · by_cases hz : m = 0
          · have hds : ds = [] := by rcases c with c | c; omega; exact c
            subst hds hz
            exact .inr (.inr (.inr rfl))
          · refine .inr (.inr (.inl ?_))
            simp only [List.getElem?_cons_zero, ne_eq, Option.some.injEq]
            omega
    · have hm : m = 0 := by omega
      have hds : ds ≠ [] := fun x => c (.inr x)
      have e : (decide (0 < m) || decide (ds = [])) = false := by simp; exact ⟨by omega, hds⟩
      subst hm
      have hv' : dv ds = n := by rw [Int.zero_mul, Int.zero_add] at hv; exact hv
      have hnb : nb (ib (bstr ds)) = (n, 0) := by
        rw [ib_bstr hBB, nb_first hds, if_neg, if_neg (by rw [hd_]; simp), nbF_dv ds 0 hd_ (by omega) (by omega)]
        · rw [Int.zero_mul, Int.zero_add, hv']
        · rintro ⟨x1, x2⟩
          rcases hlead with y | y | y | y
          · exact hds y
          · omega
          · exact y x1
          · exact x2 y
      have hsz : (bstr ds).size < 1000000 := by rw [bstr_size]; omega
      rw [e, cond_false, num_ok _ hsz, hnb, value_ok' _ hsz]
      simp only [bs, isnum_ok, hnb, decide_true]
      subst hls ht
      rw [hh, lawake_ok]
      by_cases hs : t = ⟨#[]⟩
      · rw [decide_eq_true hs]
        simp only [List.length_singleton, Int.natCast_one, bne_self_eq_false, Bool.not_true, BEq.rfl, show (false == true) = false from rfl, Bool.and_false, Bool.false_and, gf_, bs, Bool.or_self, cond_false, decide_true, Bool.and_self, gt_]
      · have hne' := hne hs
        rw [decide_eq_false hs]
        have e0 : fl [] (D h) = [h] := by unfold fl; rw [if_neg hne', List.nil_append]; rfl
        have i0 : idx [[h]] (0 : Int) = some [h] := rfl
        have i1 : idx [h] (0 : Int) = some h := rfl
        rw [e0]
        simp only [List.length_singleton, Int.natCast_one, bne_self_eq_false, Bool.not_false, Bool.not_true, BEq.rfl, Bool.and_true, Bool.and_self, gt_, i0, i1, bs, Bool.or_self, Bool.and_false, cond_false, decide_true]
theorem LexHex_t (s : ByteArray) (n : Int) (hn : 0 ≤ n ∧ n ≤ 18446744073709551615) : LexHex_m s n = some true := by
  unfold LexHex_m
  by_cases h : 300 < s.size
  · rw [decide_eq_true (show (300 : Int) < (s.size : Int) by omega), lawake_ok]; rfl
  · have hb := ib_bb s
    have hsz : (bstr ((ib s).flatMap hx)).size = 2 * s.size := by rw [bstr_size, hx_len, ib_len]
    rw [gt300 h, cond_false, hex_ok s (by omega), bs, unhex_ok _ (by omega), lines_letters _ (by omega) (D_hex hb), ib_bstr (hx_bb hb), unL_hx hb]
    simp only [bs, bstr_ib]
    have := hexL1 s (bstr ((ib s).flatMap hx)) s n _ hn rfl rfl (by rw [hsz, wr_i64 (by omega) (by omega)]; omega) (fun hs hd0 => by
      have := congrArg List.length hd0
      rw [D_len, hsz] at this
      apply hs
      rw [empty_iff]
      exact List.eq_nil_of_length_eq_zero (by rw [List.length_nil] at this; rw [ib_len]; omega)) FUEL 20 [] n (by rw [FUEL_big]; omega) hn.1 (by omega) hn.2 rfl (by simp) (by omega) (by simp [dv]) (.inl rfl)
    exact this
theorem wf_u64 {x : Int} (h : (Lit.int .u64 x).wf = true) : 0 ≤ x ∧ x ≤ 18446744073709551615 := by
  simp [Lit.wf, IntKind.min, IntKind.max, IntKind.bits, IntKind.signed] at h; omega
theorem LexHex_w (s : ByteArray) (n : Int) (_ : s.size ≤ maxLen) (h : (Lit.int .u64 n).wf = true) : LexHex_m s n = some true := LexHex_t s n (wf_u64 h)
end Go.Proofs.Ytoenhcdjahpdhaa
