/- The laws of plan. -/
import Derived.Test.YtkkhgcllbbffaaaPlanP
import Derived.Test.YtkkhgcllbbffaaaAmE
set_option linter.unusedVariables false
set_option linter.unusedSimpArgs false
set_option maxRecDepth 20000
set_option maxHeartbeats 1000000
namespace Go.Proofs.Ytkkhgcllbbffaaa
open Go Go.AM Go.Pl

theorem pawake_ok : plAwake_m = some true := by
  obtain ⟨c1, e1, p1, r1⟩ := plan_ok (n := 1) (m := 0) (k := 64) rfl rfl
  obtain ⟨c2, e2, p2, r2⟩ := plan_ok (n := 2) (m := 1) (k := 1) rfl rfl
  obtain ⟨c3, e3, p3, r3⟩ := plan_ok (n := 1024) (m := 1000000) (k := 64) rfl rfl
  obtain ⟨w, w1, w2, w3⟩ := whole_ok' (l := 2) (r := 1) rfl
  have p4 : plWeight_m 0 1 1 1 = some ([], 1) := weight_no rfl
  have f1 : c1 = ⟨1, 1, 1⟩ ∧ e1 = 0 := by
    have k : Enb 1 0 64 1 1 = true := by decide +kernel
    rcases r1 with ⟨l, r, a1, a2, a3, a4, a5, a6, a7, a8⟩ | ⟨_, _, a⟩
    · by_cases h : 1 < l ∨ 1 = l ∧ 1 < r
      · rw [a8 1 1 (by omega) (by omega) (by omega) h] at k; cases k
      · have : l = 1 := by omega
        have : r = 1 := by omega
        subst l r; exact ⟨a5, a6⟩
    · rw [a 1 1 (by omega) (by omega) (by omega) (by omega)] at k; cases k
  have f2 : c2.N = 2 ∧ 2 ≤ c2.L ∧ e2 = 0 := by
    have k : Enb 2 1 1 4 8 = true := by decide +kernel
    have k1 : ∀ r : Fin 9, Enb 2 1 1 1 r.val = false ∨ r.val = 0 := by decide +kernel
    rcases r2 with ⟨l, r, a1, a2, a3, a4, a5, a6, a7, a8⟩ | ⟨_, _, a⟩
    · subst a5
      refine ⟨rfl, ?_, a6⟩
      simp only
      rcases (show l = 1 ∨ 2 ≤ l by omega) with h | h
      · subst h
        have := k1 ⟨r, by omega⟩
        simp only [a7] at this
        rcases this with h | h
        · cases h
        · omega
      · omega
    · rw [a 4 8 (by omega) (by omega) (by omega) (by omega)] at k; cases k
  have f3 : e3 = 6 := by
    have k : ∀ (l : Fin 17) (r : Fin 9), Enb 1024 1000000 64 l.val r.val = false ∨ l.val = 0 := by decide +kernel
    rcases r3 with ⟨l, r, a1, a2, a3, a4, a5, a6, a7, a8⟩ | ⟨_, a, _⟩
    · have := k ⟨l, by omega⟩ ⟨r, by omega⟩
      simp only [a7] at this
      rcases this with h | h
      · cases h
      · omega
    · exact a
  have f4 : w = [256] := by
    have : IsN [256] (Ho 2 1) := ⟨fun x hx => by simp at hx; omega, fun x hx => by simp at hx; omega, rfl⟩
    exact w1.uniq this
  obtain ⟨rfl, rfl⟩ := f1
  obtain ⟨g1, g2, rfl⟩ := f2
  subst f3 f4
  have h1 : plPlan_m 1 0 64 = some (⟨1, 1, 1⟩, 0) := p1
  have h2 : plPlan_m 2 1 1 = some (c2, 0) := p2
  have h3 : plPlan_m 1024 1000000 64 = some (c3, 6) := p3
  have h4 : plWhole_m 2 1 = some ([256], 0) := w3
  unfold plAwake_m
  simp only [h1, h2, h3, h4, p4, bs, same_self [256] rfl, g1, decide_eq_true g2]
  rfl

def enI (n m k l r : Int) : Bool := cnt n m && btk k && shp l r && Enb n m k.toNat l.toNat r.toNat
theorem enough_all (n m k l r : Int) : plEnough_m n m k l r = some (enI n m k l r) := by
  by_cases h : (cnt n m && btk k && shp l r) = true
  · have h1 := h
    simp only [Bool.and_eq_true] at h1
    obtain ⟨⟨h1, h2⟩, h3⟩ := h1
    have a := btk_iff.mp h2
    have b := shp_iff.mp h3
    have := enough_ok (n := n) (m := m) (k := k.toNat) (l := l.toNat) (r := r.toNat) h1 (by rw [Int.toNat_of_nonneg a.1]; exact h2) (by rw [Int.toNat_of_nonneg (by omega), Int.toNat_of_nonneg (by omega)]; exact h3)
    rw [Int.toNat_of_nonneg a.1, Int.toNat_of_nonneg (show 0 ≤ l by omega), Int.toNat_of_nonneg (show 0 ≤ r by omega)] at this
    rw [this, enI, h, Bool.true_and]
  · have h' : (cnt n m && btk k && shp l r) = false := by simpa using h
    rw [enough_no h', enI, h', Bool.false_and]
theorem enI_iff {n m k l r : Int} : enI n m k l r = true ↔ cnt n m = true ∧ btk k = true ∧ shp l r = true ∧ Enb n m k.toNat l.toNat r.toNat = true := by
  simp only [enI, Bool.and_eq_true]; constructor <;> (intro h; simp_all)
theorem pos8 (r : Nat) : (0 : Int) < 8 ^ r := Int.pow_pos (by omega)
theorem pos7 (r : Nat) : (0 : Int) < 7 ^ r := Int.pow_pos (by omega)
theorem le78 : ∀ r : Nat, (7 : Int) ^ r ≤ 8 ^ r
  | 0 => by simp
  | r + 1 => by
    have := le78 r
    have := pos7 r
    rw [Int.pow_succ, Int.pow_succ]; omega
theorem Rw_pos (r : Nat) : 0 < Rw r ∧ Rw r ≤ 2 * 8 ^ r := by
  have := pos8 r
  have := pos7 r
  have := le78 r
  unfold Rw; omega
theorem Ho_pos (l r : Nat) : 0 < Ho l r := Int.pow_pos (by have := pos8 r; omega)
theorem pow_mono {a b : Int} (ha : 0 ≤ a) (h : a ≤ b) : ∀ n : Nat, a ^ n ≤ b ^ n
  | 0 => by simp
  | n + 1 => by
    rw [Int.pow_succ, Int.pow_succ]
    exact Int.mul_le_mul (pow_mono ha h n) h ha (Int.pow_nonneg (by omega))
theorem W_nn {n m : Int} (l r : Nat) (hn : 0 ≤ n) (hm : 0 ≤ m) : 0 ≤ Wt n m l r := Int.mul_nonneg (Int.mul_nonneg hm hn) (Int.pow_nonneg (by have := Rw_pos r; omega))
theorem enb_l {n m : Int} {k l r : Nat} (hn : 0 ≤ n) (hm : 0 ≤ m) (h : Enb n m k l r = true) : Enb n m k (l + 1) r = true := by
  unfold Enb at h ⊢
  rw [decide_eq_true_eq] at h ⊢
  have R := Rw_pos r
  have e1 : Wt n m (l + 1) r * 2 ^ k = Wt n m l r * 2 ^ k * Rw r := by unfold Wt; rw [Int.pow_succ]; grind
  have e2 : Ho (l + 1) r = Ho l r * (2 * 8 ^ r) := by unfold Ho; rw [Int.pow_succ]
  rw [e1, e2]
  exact Int.mul_le_mul h R.2 (by omega) (by have := Ho_pos l r; omega)
theorem enb_r {n m : Int} {k l r : Nat} (hn : 0 ≤ n) (hm : 0 ≤ m) (h : Enb n m k l r = true) : Enb n m k l (r + 1) = true := by
  unfold Enb at h ⊢
  rw [decide_eq_true_eq] at h ⊢
  have p8 := pos8 r
  have p7 := pos7 r
  have key : Rw (r + 1) * (2 * 8 ^ r) ≤ Rw r * (2 * 8 ^ (r + 1)) := by
    unfold Rw
    rw [Int.pow_succ, Int.pow_succ]
    have : (0 : Int) ≤ 7 ^ r * 8 ^ r := Int.mul_nonneg (by omega) (by omega)
    have e1 : ((8 : Int) ^ r * 8 + 7 ^ r * 7) * (2 * 8 ^ r) = 16 * (8 ^ r * 8 ^ r) + 14 * (7 ^ r * 8 ^ r) := by grind
    have e2 : ((8 : Int) ^ r + 7 ^ r) * (2 * (8 ^ r * 8)) = 16 * (8 ^ r * 8 ^ r) + 16 * (7 ^ r * 8 ^ r) := by grind
    rw [e1, e2]; omega
  have R1 := Rw_pos (r + 1)
  have kp := pow_mono (Int.mul_nonneg (by omega) (by omega)) key l
  rw [Int.mul_pow (a := Rw (r+1)) (b := 2*8^r) (n := l), Int.mul_pow (a := Rw r) (b := 2*8^(r+1)) (n := l)] at kp
  have hH := Ho_pos l r
  have hH' := Ho_pos l (r + 1)
  have hk : (0 : Int) < 2 ^ k := Int.pow_pos (by omega)
  have hmn : 0 ≤ m * n * 2 ^ k := Int.mul_nonneg (Int.mul_nonneg hm hn) (by omega)
  refine Int.le_of_mul_le_mul_right (a := Ho l r) ?_ hH
  have s1 := Int.mul_le_mul_of_nonneg_left kp hmn
  have s2 := Int.mul_le_mul_of_nonneg_right h (show 0 ≤ Ho l (r + 1) by omega)
  unfold Wt Ho at *
  have t1 : m * n * Rw (r + 1) ^ l * 2 ^ k * (2 * 8 ^ r) ^ l = m * n * 2 ^ k * (Rw (r + 1) ^ l * (2 * 8 ^ r) ^ l) := by grind
  have t2 : m * n * 2 ^ k * (Rw r ^ l * (2 * 8 ^ (r + 1)) ^ l) = m * n * Rw r ^ l * 2 ^ k * (2 * 8 ^ (r + 1)) ^ l := by grind
  have t3 : (2 * 8 ^ r : Int) ^ l * (2 * 8 ^ (r + 1)) ^ l = (2 * 8 ^ (r + 1)) ^ l * (2 * 8 ^ r) ^ l := Int.mul_comm ..
  rw [t1]
  rw [t2] at s1
  rw [t3] at s2
  exact Int.le_trans s1 s2
theorem enb_mono {n m n' m' : Int} {k k' l r : Nat} (hn : 0 ≤ n') (hn' : n' ≤ n) (hm : 0 ≤ m') (hm' : m' ≤ m) (hk : k' ≤ k) (h : Enb n m k l r = true) : Enb n' m' k' l r = true := by
  unfold Enb at h ⊢
  rw [decide_eq_true_eq] at h ⊢
  refine Int.le_trans ?_ h
  have h1 : (2 : Int) ^ k' ≤ 2 ^ k := by
    have : ((2 ^ k' : Nat) : Int) ≤ ((2 ^ k : Nat) : Int) := Int.ofNat_le.mpr (Nat.pow_le_pow_right (by omega) hk)
    simpa using this
  have h2 : (0 : Int) < 2 ^ k' := Int.pow_pos (by omega)
  refine Int.mul_le_mul ?_ h1 (by omega) (W_nn l r (by omega) (by omega))
  exact Int.mul_le_mul_of_nonneg_right (Int.mul_le_mul hm' hn' hn (by omega)) (Int.pow_nonneg (by have := Rw_pos r; omega))
theorem PlanMore_t (n m k l r : Int) : PlanMore_m n m k l r = some true := by
  unfold PlanMore_m
  simp only [enough_all, bs, pawake_ok]
  cases h : enI n m k l r with
  | false => rfl
  | true =>
    obtain ⟨h1, h2, h3, h4⟩ := enI_iff.mp h
    obtain ⟨a1, a2, a3, a4⟩ := cnt_iff.mp h1
    obtain ⟨b1, b2⟩ := btk_iff.mp h2
    obtain ⟨c1, c2, c3, c4⟩ := shp_iff.mp h3
    have x1 : l < 16 → enI n m k (IntKind.i64.wrap (l + 1)) r = true := fun hl => by
      rw [wr_i64 (by omega) (by omega)]
      refine enI_iff.mpr ⟨h1, h2, shp_iff.mpr ⟨by omega, by omega, c3, c4⟩, ?_⟩
      rw [show (l + 1).toNat = l.toNat + 1 by omega]; exact enb_l (by omega) a3 h4
    have x2 : r < 8 → enI n m k l (IntKind.i64.wrap (r + 1)) = true := fun hl => by
      rw [wr_i64 (by omega) (by omega)]
      refine enI_iff.mpr ⟨h1, h2, shp_iff.mpr ⟨c1, c2, by omega, by omega⟩, ?_⟩
      rw [show (r + 1).toNat = r.toNat + 1 by omega]; exact enb_r (by omega) a3 h4
    have x3 : enI n m (IntKind.i64.wrap (Int.tdiv k 2)) l r = true := by
      rw [Int.tdiv_eq_ediv_of_nonneg b1, wr_i64 (by omega) (by omega)]
      exact enI_iff.mpr ⟨h1, btk_iff.mpr ⟨by omega, by omega⟩, h3, enb_mono (by omega) (by omega) a3 (by omega) (by omega) h4⟩
    have x4 : enI n (IntKind.i64.wrap (Int.tdiv m 2)) k l r = true := by
      rw [Int.tdiv_eq_ediv_of_nonneg a3, wr_i64 (by omega) (by omega)]
      exact enI_iff.mpr ⟨cnt_iff.mpr ⟨a1, a2, by omega, by omega⟩, h2, h3, enb_mono (by omega) (by omega) (by omega) (by omega) (by omega) h4⟩
    have x5 : enI (IntKind.i64.wrap (Int.tdiv (IntKind.i64.wrap (n + 1)) 2)) m k l r = true := by
      rw [wr_i64 (n := n + 1) (by omega) (by omega), Int.tdiv_eq_ediv_of_nonneg (by omega), wr_i64 (by omega) (by omega)]
      exact enI_iff.mpr ⟨cnt_iff.mpr ⟨by omega, by omega, a3, a4⟩, h2, h3, enb_mono (by omega) (by omega) a3 (by omega) (by omega) h4⟩
    rw [x3, x4, x5]
    by_cases d1 : l < 16 <;> by_cases d2 : r < 8
    · rw [x1 d1, x2 d2, decide_eq_true d1, decide_eq_true d2]; rfl
    · rw [x1 d1, decide_eq_true d1, decide_eq_false d2]; rfl
    · rw [x2 d2, decide_eq_false d1, decide_eq_true d2]; rfl
    · rw [decide_eq_false d1, decide_eq_false d2]; rfl
theorem plan_all {n m k : Int} (h : (cnt n m && btk k) = true) : ∃ c e, plPlan_m n m k = some (c, e) ∧ Res n m k.toNat c e := by
  simp only [Bool.and_eq_true] at h
  have := plan_ok (n := n) (m := m) (k := k.toNat) h.1 (by rw [Int.toNat_of_nonneg (btk_iff.mp h.2).1]; exact h.2)
  rw [Int.toNat_of_nonneg (btk_iff.mp h.2).1] at this
  exact this
/-- Where something is enough, a plan is found, of no more tiers. -/
theorem res_le {n m n' m' : Int} {k k' : Nat} {c d : GConfig} {e : Int} {l r : Nat} (hn : 0 ≤ n') (hn' : n' ≤ n) (hm : 0 ≤ m') (hm' : m' ≤ m) (hk : k' ≤ k) (hl : 1 ≤ l ∧ l ≤ 16) (hr : 1 ≤ r ∧ r ≤ 8) (h : Enb n m k l r = true) (hR : Res n' m' k' d e) : e = 0 ∧ d.L ≤ l := by
  have h' := enb_mono hn hn' hm hm' hk h
  rcases hR with ⟨l0, r0, a1, a2, a3, a4, rfl, a6, a7, a8⟩ | ⟨_, _, a⟩
  · refine ⟨a6, ?_⟩
    simp only
    rcases Nat.lt_or_ge l l0 with h1 | h1
    · rw [a8 l r hl.1 hr.1 hr.2 (.inl h1)] at h'; cases h'
    · omega
  · rw [a l r hl.1 hl.2 hr.1 hr.2] at h'; cases h'
theorem PlanFits_t (n m k : Int) : PlanFits_m n m k = some true := by
  unfold PlanFits_m
  rw [pawake_ok]
  by_cases h : (cnt n m && btk k) = true
  · obtain ⟨c, e, p, R⟩ := plan_all h
    rw [p, bs]
    simp only [Bool.and_eq_true] at h
    obtain ⟨h1, h2⟩ := h
    obtain ⟨a1, a2, a3, a4⟩ := cnt_iff.mp h1
    obtain ⟨b1, b2⟩ := btk_iff.mp h2
    rcases R with ⟨l0, r0, c1, c2, c3, c4, rfl, rfl, c7, c8⟩ | ⟨rfl, rfl, _⟩
    · have e1 : IntKind.i64.wrap (Int.tdiv k 2) = k / 2 := by rw [Int.tdiv_eq_ediv_of_nonneg b1, wr_i64 (by omega) (by omega)]
      have e2 : IntKind.i64.wrap (Int.tdiv m 2) = m / 2 := by rw [Int.tdiv_eq_ediv_of_nonneg a3, wr_i64 (by omega) (by omega)]
      have e3 : IntKind.i64.wrap (1 + IntKind.i64.wrap (Int.tdiv (IntKind.i64.wrap (n - 1)) 2)) = 1 + (n - 1) / 2 := by
        rw [wr_i64 (n := n - 1) (by omega) (by omega), Int.tdiv_eq_ediv_of_nonneg (by omega), wr_i64 (n := (n - 1) / 2) (by omega) (by omega), wr_i64 (by omega) (by omega)]
      rw [e1, e2, e3]
      obtain ⟨d, f, q, Q⟩ := plan_all (n := n) (m := m) (k := k / 2) (by rw [h1, Bool.true_and]; exact btk_iff.mpr ⟨by omega, by omega⟩)
      obtain ⟨g, f', q', Q'⟩ := plan_all (n := 1 + (n - 1) / 2) (m := m / 2) (k := k) (by rw [h2, Bool.and_true]; exact cnt_iff.mpr ⟨by omega, by omega, by omega, by omega⟩)
      obtain ⟨rfl, hd⟩ := res_le (c := d) (by omega) (by omega) a3 (by omega) (by omega) ⟨c1, c2⟩ ⟨c3, c4⟩ c7 Q
      obtain ⟨rfl, hg⟩ := res_le (c := d) (by omega) (by omega) (by omega) (by omega) (by omega) ⟨c1, c2⟩ ⟨c3, c4⟩ c7 Q'
      simp only [q, q', bs, bne_self_eq_false, cond_false, BEq.rfl, Bool.true_and, decide_eq_true hd, decide_eq_true hg, decide_eq_true (show (1 : Int) ≤ (l0 : Int) by omega), decide_eq_true (show (l0 : Int) ≤ 16 by omega), decide_eq_true (show (1 : Int) ≤ (r0 : Int) by omega), decide_eq_true (show (r0 : Int) ≤ 8 by omega), Bool.and_true, gt_]
    · rfl
  · have h' : (cnt n m && btk k) = false := by simpa using h
    rw [plan_no h', bs]
    rfl
theorem PlanMore_w (n m k l r : Int) (_ : (Lit.int .i64 n).wf = true) (_ : (Lit.int .i64 m).wf = true) (_ : (Lit.int .i64 k).wf = true) (_ : (Lit.int .i64 l).wf = true) (_ : (Lit.int .i64 r).wf = true) : PlanMore_m n m k l r = some true := PlanMore_t n m k l r
theorem PlanFits_w (n m k : Int) (_ : (Lit.int .i64 n).wf = true) (_ : (Lit.int .i64 m).wf = true) (_ : (Lit.int .i64 k).wf = true) : PlanFits_m n m k = some true := PlanFits_t n m k
end Go.Proofs.Ytkkhgcllbbffaaa
