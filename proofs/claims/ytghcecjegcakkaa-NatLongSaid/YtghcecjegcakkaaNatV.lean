/- The laws of naturals, on; at arguments as they come in. -/
import Derived.Test.YtghcecjegcakkaaNatU
import Derived.Test.YtghcecjegcakkaaAmE
set_option linter.unusedVariables false
set_option linter.unusedSimpArgs false
set_option maxRecDepth 20000
set_option maxHeartbeats 1000000
namespace Go.Proofs.Ytghcecjegcakkaa
open Go Go.AM Go.Pl
theorem bs {α β : Type} (x : α) (f : α → Option β) : (some x).bind f = f x := (Option.bind_some x f).trans (Eq.refl _)
theorem gt_ {α : Type} {d : α} {o : Option α} : gopt true d o = o := (gopt_true (d := d) (o := o)).trans (Eq.refl _)
theorem lim_wf {l : List Int} (h : (∀ y, y ∈ l → (Lit.int .u32 y).wf = true) ∧ l.length ≤ maxLen) : Lim l := fun x hx => by have := bounds_u32 (h.1 x hx); omega
theorem NatTells_w (a b : List Int) (n : Int) (ha : (∀ y, y ∈ a → (Lit.int .u32 y).wf = true) ∧ a.length ≤ maxLen) (hb : (∀ y, y ∈ b → (Lit.int .u32 y).wf = true) ∧ b.length ≤ maxLen) (hn : (Lit.int .u64 n).wf = true) : NatTells_m a b n = some true :=
  NatTells_t a b n (lim_wf ha) (lim_wf hb) (by have := bounds_u64 hn; omega)

theorem Ans.small {o : Option (List Int × Int)} {v : Int} (h : Ans o v) (hv : v < 4294967296 ^ 64) : ∃ t, IsN t v ∧ Rt t = true ∧ o = some (t, 0) := by
  obtain ⟨t, h1, h2⟩ := h
  have := h1.len_le hv
  exact ⟨t, h1, rt_of h1 this, by rw [h2, if_pos this]⟩
theorem cmp_of {a b : List Int} {v u : Int} (ha : IsN a v) (hb : IsN b u) (ra : Rt a = true) (rb : Rt b = true) : natCmp_m a b = some (cmpv v u) := by
  rw [cmp_ok ha.lim hb.lim ra rb, ha.val, hb.val]
theorem add_of {a b : List Int} {v u : Int} (ha : IsN a v) (hb : IsN b u) (ra : Rt a = true) (rb : Rt b = true) : Ans (natAdd_m a b) (v + u) := by
  have := add_ok ha.lim hb.lim ra rb; rwa [ha.val, hb.val] at this
theorem mul_of {a b : List Int} {v u : Int} (ha : IsN a v) (hb : IsN b u) (ra : Rt a = true) (rb : Rt b = true) : Ans (natMul_m a b) (v * u) := by
  have := mul_ok ha.lim hb.lim ra rb; rwa [ha.val, hb.val] at this
theorem pow_of {a : List Int} {v : Int} (ha : IsN a v) (ra : Rt a = true) (k : Nat) (hk : k ≤ 1024) : Ans (natPow_m a (k : Nat)) (v ^ k) := by
  have := pow_ok ha.lim ra k hk; rwa [ha.val] at this
theorem same_self (a : List Int) (h : Rt a = true) : refSame_m a a = some true := by
  have := ((Rt_iff a).mp h).1
  rw [same_ok a a (by omega)]; simp
theorem NatOf_t (a b : Int) (ha : 0 ≤ a ∧ a < 4294967296) (hb : 0 ≤ b ∧ b < 4294967296) : NatOf_m a b = some true := by
  have hab := mulBound ha hb
  obtain ⟨ta, h1, h2, h3, _⟩ := of_ok a (by omega)
  obtain ⟨tb, k1, k2, k3, _⟩ := of_ok b (by omega)
  obtain ⟨ts, s1, s2, s3, _⟩ := of_ok (a + b) (by omega)
  obtain ⟨tm, m1, m2, m3, _⟩ := of_ok (a * b) (by omega)
  obtain ⟨s, e1, e2, e3⟩ := (add_of h2 k2 h3 k3).small (by have := pw_le (show 3 ≤ 64 by omega); omega)
  obtain ⟨m, f1, f2, f3⟩ := (mul_of h2 k2 h3 k3).small (by have := pw_le (show 3 ≤ 64 by omega); omega)
  rw [s2.uniq e1] at s1
  rw [m2.uniq f1] at m1
  have hJ : ∀ c, c = cmpv a b → NatOf_J2 a b s 0 m 0 c = some true := by
    intro c hc
    subst hc
    unfold NatOf_J2
    rw [wr_u64 (n := a) (by omega) (by omega), wr_u64 (n := b) (by omega) (by omega), wr_u64 (n := a + b) (by omega) (by omega), wr_u64 (n := a * b) (by omega) (by omega), h1, k1, s1, m1, awake_ok]
    simp only [BEq.rfl, Bool.and_self, gt_, bs, same_self s e2, same_self m f2, cmp_of h2 k2 h3 k3]
  unfold NatOf_m
  rw [wr_u64 (n := a) (by omega) (by omega), wr_u64 (n := b) (by omega) (by omega), h1, k1]
  simp only [bs, e3, f3]
  unfold NatOf_J1
  by_cases hlt : a < b
  · rw [decide_eq_true hlt, cond_true, decide_eq_false (by omega), cond_false]
    exact hJ _ (by rw [(cmpv_lt hlt).1])
  · rw [decide_eq_false hlt, cond_false]
    by_cases hgt : b < a
    · rw [decide_eq_true hgt, cond_true]
      exact hJ _ (by rw [(cmpv_lt hgt).2])
    · rw [decide_eq_false hgt, cond_false]
      exact hJ _ (by rw [show a = b by omega, cmpv_eq])
theorem NatOf_w (a b : Int) (ha : (Lit.int .u32 a).wf = true) (hb : (Lit.int .u32 b).wf = true) : NatOf_m a b = some true :=
  NatOf_t a b (by have := bounds_u32 ha; omega) (by have := bounds_u32 hb; omega)
theorem self_of {a : List Int} (la : Lim a) (ra : Rt a = true) : IsN a (nv a) := ⟨la, ((Rt_iff a).mp ra).2, rfl⟩
theorem bigQ : ∃ Q R : Int, 1 ≤ Q ∧ Q ≤ Q * Q ∧ Q * Q * 4294967296 ≤ R ∧ (∀ a : List Int, Lim a → a.length ≤ 20 → 0 ≤ nv a ∧ nv a < Q) ∧ ∀ {o : Option (List Int × Int)} {v : Int}, Ans o v → v < R → ∃ t, IsN t v ∧ Rt t = true ∧ o = some (t, 0) := by
  refine ⟨4294967296 ^ 20, 4294967296 ^ 64, ?_, ?_, ?_, ?_, fun h hv => h.small hv⟩
  · have := pw_pos 20; omega
  · have := pw_pos 20
    have := Int.mul_le_mul_of_nonneg_left (show (1 : Int) ≤ 4294967296 ^ 20 by omega) (show (0 : Int) ≤ 4294967296 ^ 20 by omega)
    omega
  · rw [← Int.pow_add, ← Int.pow_succ]; exact pw_le (by omega)
  · intro a la ha
    have := nv_bound a la
    have := pw_le ha
    omega
theorem pair_ok {c : Bool} {x y : Option Bool} {a b : List Int} (h : c = true) : (gopt (c == false) false x) = some false := by subst h; rfl
theorem NatSquare_t (a b : List Int) (la : Lim a) (lb : Lim b) : NatSquare_m a b = some true := by
  unfold NatSquare_m
  rw [awake_ok]
  by_cases hs : a.length ≤ 20 ∧ b.length ≤ 20
  · obtain ⟨ha, hb⟩ := hs
    rw [right_ok a (by omega), right_ok b (by omega), show decide (20 < (a.length : Int)) = false by simp <;> omega, show decide (20 < (b.length : Int)) = false by simp <;> omega]
    cases ra : Rt a with
    | false => rfl
    | true =>
    cases rb : Rt b with
    | false => rfl
    | true =>
    simp only [Bool.or_self, Bool.or_false, BEq.rfl, gt_, bs, Bool.not_true, cond_false]
    have ia := self_of la ra
    have ib := self_of lb rb
    obtain ⟨Q, R, q1, q2, q3, q4, small⟩ := bigQ
    obtain ⟨pa0, pa1⟩ := q4 a la ha
    obtain ⟨pb0, pb1⟩ := q4 b lb hb
    have b1 := Int.mul_le_mul (show nv a ≤ Q by omega) (show nv a ≤ Q by omega) pa0 (by omega)
    have b2 := Int.mul_le_mul (show nv b ≤ Q by omega) (show nv b ≤ Q by omega) pb0 (by omega)
    have b3 := Int.mul_le_mul (show nv a ≤ Q by omega) (show nv b ≤ Q by omega) pb0 (by omega)
    have sq : (nv a + nv b) * (nv a + nv b) = nv a * nv a + nv b * nv b + nv a * nv b * 2 := by grind
    obtain ⟨s, s1, s2, s3⟩ := small (add_of ia ib ra rb) (by omega)
    obtain ⟨x, x1, x2, x3⟩ := small (mul_of s1 s1 s2 s2) (by rw [sq]; omega)
    obtain ⟨p, p1, p2, p3⟩ := small (mul_of ia ia ra ra) (by omega)
    obtain ⟨q, r1, r2, r3⟩ := small (mul_of ib ib rb rb) (by omega)
    obtain ⟨m, m1, m2, m3⟩ := small (mul_of ia ib ra rb) (by omega)
    obtain ⟨t, t1, t2, t3, _⟩ := of_ok 2 (by omega)
    obtain ⟨n, n1, n2, n3⟩ := small (mul_of m1 t2 m2 t3) (by omega)
    obtain ⟨y, y1, y2, y3⟩ := small (add_of p1 r1 p2 r2) (by omega)
    obtain ⟨z, z1, z2, z3⟩ := small (add_of y1 n1 y2 n2) (by omega)
    rw [← sq] at z1
    have e := z1.uniq x1
    subst e
    simp only [s3, x3, p3, r3, m3, t1, n3, y3, z3, bs, BEq.rfl, Bool.and_self, gt_, same_self z z2]
  · have e : ((decide (20 < (a.length : Int))) || (decide (20 < (b.length : Int)))) = true := by simp <;> omega
    rw [e]; rfl
theorem NatSquare_w (a b : List Int) (ha : (∀ y, y ∈ a → (Lit.int .u32 y).wf = true) ∧ a.length ≤ maxLen) (hb : (∀ y, y ∈ b → (Lit.int .u32 y).wf = true) ∧ b.length ≤ maxLen) : NatSquare_m a b = some true :=
  NatSquare_t a b (lim_wf ha) (lim_wf hb)
end Go.Proofs.Ytghcecjegcakkaa
