/- Naturals as lists of limbs: plain facts, and what the printed functions of nat compute. -/
import Derived.Test.YtkkhgcllbbffaaaNatM
import Derived.Test.YtkkhgcllbbffaaaPl
set_option linter.unusedVariables false
set_option linter.unusedSimpArgs false
set_option maxRecDepth 20000
set_option maxHeartbeats 1000000
namespace Go.Proofs.Ytkkhgcllbbffaaa
open Go Go.AM Go.Pl

def nv : List Int → Int
  | [] => 0
  | x :: l => x + 4294967296 * nv l
def Lim (l : List Int) : Prop := ∀ x, x ∈ l → 0 ≤ x ∧ x < 4294967296
def Trm (l : List Int) : Prop := ∀ x, l.getLast? = some x → x ≠ 0
theorem Lim.cons {x : Int} {l : List Int} (h : Lim (x :: l)) : (0 ≤ x ∧ x < 4294967296) ∧ Lim l := ⟨h x (by simp), fun y hy => h y (by simp [hy])⟩
theorem Lim.at {l : List Int} {k : Nat} {x : Int} (h : Lim l) (hk : l[k]? = some x) : 0 ≤ x ∧ x < 4294967296 := h x (List.mem_of_getElem? hk)
theorem Lim.app {a b : List Int} (ha : Lim a) (hb : Lim b) : Lim (a ++ b) := fun x hx => (List.mem_append.mp hx).elim (ha x) (hb x)
theorem Lim.left {a b : List Int} (h : Lim (a ++ b)) : Lim a := fun x hx => h x (List.mem_append_left _ hx)
theorem Lim.set {l : List Int} (h : Lim l) {k : Nat} {y : Int} (hy : 0 ≤ y ∧ y < 4294967296) : Lim (l.set k y) := by
  intro x hx
  rcases List.mem_or_eq_of_mem_set hx with h1 | h1
  · exact h x h1
  · subst h1; exact hy
theorem nv_append : ∀ a b : List Int, nv (a ++ b) = nv a + 4294967296 ^ a.length * nv b
  | [], b => by simp [nv]
  | x :: a, b => by
    simp only [List.cons_append, nv, nv_append a b, List.length_cons, Int.pow_succ]
    grind
theorem nv_bound : ∀ l : List Int, Lim l → 0 ≤ nv l ∧ nv l < 4294967296 ^ l.length
  | [], _ => by simp [nv]
  | x :: l, h => by
    obtain ⟨h1, h2⟩ := h.cons
    have ih := nv_bound l h2
    simp only [nv, List.length_cons, Int.pow_succ]
    constructor <;> omega
theorem nv_set : ∀ (l : List Int) (k : Nat) (x y : Int), l[k]? = some x → nv (l.set k y) = nv l + 4294967296 ^ k * (y - x)
  | [], k, x, y, h => by simp at h
  | z :: l, 0, x, y, h => by
    simp at h; subst h
    simp only [List.set_cons_zero, nv]; omega
  | z :: l, k + 1, x, y, h => by
    simp at h
    have ih := nv_set l k x y h
    simp only [List.set_cons_succ, nv, ih, Int.pow_succ]
    grind
theorem nv_take : ∀ (l : List Int) (k : Nat) (x : Int), l[k]? = some x → nv (l.take (k + 1)) = nv (l.take k) + 4294967296 ^ k * x := by
  intro l k x h
  have hk : k < l.length := by
    rcases Nat.lt_or_ge k l.length with h1 | h1
    · exact h1
    · rw [List.getElem?_eq_none h1] at h; cases h
  rw [List.take_add_one, h, nv_append]
  simp [nv, Nat.min_eq_left (Nat.le_of_lt hk)]
theorem take_more {l : List Int} {k : Nat} (h : l.length ≤ k) : l.take (k + 1) = l.take k := by rw [List.take_of_length_le h, List.take_of_length_le (by omega)]
theorem nv_inj : ∀ a b : List Int, Lim a → Lim b → a.length = b.length → nv a = nv b → a = b
  | [], [], _, _, _, _ => rfl
  | [], _ :: _, _, _, h, _ => by simp at h
  | _ :: _, [], _, _, h, _ => by simp at h
  | x :: a, y :: b, ha, hb, hl, hv => by
    obtain ⟨h1, h2⟩ := ha.cons
    obtain ⟨h3, h4⟩ := hb.cons
    simp only [nv] at hv
    have e1 : nv a = nv b := by omega
    have e2 : x = y := by omega
    rw [e2, nv_inj a b h2 h4 (by simpa using hl) e1]
theorem pw_pos (n : Nat) : (0 : Int) < 4294967296 ^ n := Int.pow_pos (by omega)
theorem pw_le {m n : Nat} (h : m ≤ n) : (4294967296 : Int) ^ m ≤ 4294967296 ^ n := by
  obtain ⟨k, rfl⟩ := Nat.le.dest h
  rw [Int.pow_add]
  have h1 := pw_pos m
  have h2 := pw_pos k
  have : (4294967296 : Int) ^ m * 1 ≤ 4294967296 ^ m * 4294967296 ^ k := Int.mul_le_mul_of_nonneg_left (by omega) (by omega)
  omega
theorem split_last {l : List Int} (h : l ≠ []) : ∃ a x, l = a ++ [x] := ⟨l.dropLast, l.getLast h, (List.dropLast_concat_getLast h).symm⟩
theorem nv_ge {l : List Int} (hl : Lim l) (ht : Trm l) (h : l ≠ []) : (4294967296 : Int) ^ (l.length - 1) ≤ nv l := by
  obtain ⟨a, x, rfl⟩ := split_last h
  have hx : x ≠ 0 := ht x (by simp)
  have hx' := hl x (by simp)
  have ha := nv_bound a hl.left
  rw [nv_append, List.length_append, List.length_singleton, Nat.add_sub_cancel]
  simp only [nv]
  have h1 := pw_pos a.length
  have : (4294967296 : Int) ^ a.length * 1 ≤ 4294967296 ^ a.length * (x + 4294967296 * 0) := Int.mul_le_mul_of_nonneg_left (by omega) (by omega)
  omega
/-- t is the natural v. -/
structure IsN (t : List Int) (v : Int) : Prop where
  lim : Lim t
  trm : Trm t
  val : nv t = v
theorem IsN.uniq {a b : List Int} {v : Int} (ha : IsN a v) (hb : IsN b v) : a = b := by
  have key : ∀ {a b : List Int}, IsN a v → IsN b v → ¬ a.length < b.length := by
    intro a b ha hb hlt
    have h1 := (nv_bound a ha.lim).2
    have h2 := nv_ge hb.lim hb.trm (fun e => by rw [e] at hlt; simp at hlt)
    have h3 := pw_le (show a.length ≤ b.length - 1 by omega)
    rw [ha.val] at h1; rw [hb.val] at h2; omega
  exact nv_inj a b ha.lim hb.lim (by have := key ha hb; have := key hb ha; omega) (by rw [ha.val, hb.val])
theorem IsN.self {a : List Int} (h : Lim a) (ht : Trm a) : IsN a (nv a) := ⟨h, ht, rfl⟩
theorem IsN.nil : IsN [] 0 := ⟨fun _ h => by simp at h, fun _ h => by simp at h, rfl⟩
theorem IsN.pos {a : List Int} {v : Int} (h : IsN a v) : 0 ≤ v := by rw [← h.val]; exact (nv_bound a h.lim).1
theorem IsN.len_le {a : List Int} {v : Int} (h : IsN a v) {n : Nat} (hv : v < 4294967296 ^ n) : a.length ≤ n := by
  rcases Nat.lt_or_ge n a.length with h1 | h1
  · have h2 := nv_ge h.lim h.trm (fun e => by rw [e] at h1; simp at h1)
    have h3 := pw_le (show n ≤ a.length - 1 by omega)
    rw [h.val] at h2; omega
  · exact h1
theorem IsN.lt {a : List Int} {v : Int} (h : IsN a v) : v < 4294967296 ^ a.length := by rw [← h.val]; exact (nv_bound a h.lim).2

theorem idx_nat {α : Type} (l : List α) (k : Nat) : idx l (k : Int) = l[k]? := by simp [idx]
theorem stt_nat {α : Type} (l : List α) (k : Nat) (x : α) (h : k < l.length) : stt l (k : Int) x = some (l.set k x) := by simp [stt, h]
theorem app_ok {α : Type} (l xs : List α) (h : l.length + xs.length ≤ 4294967296) : app l xs = some (l ++ xs) := by simp [app, h]
theorem mkc_ok {α : Type} (n : Nat) (z : α) (h : n ≤ 4294967296) : mkc (n : Int) (n : Int) z = some (List.replicate n z) := by
  unfold mkc; rw [if_pos (by omega)]; simp
theorem slc_ok {α : Type} (l : List α) (a b : Nat) (h : a ≤ b ∧ b ≤ l.length) : slc l (a : Int) (b : Int) = some ((l.drop a).take (b - a)) := by
  unfold slc; rw [if_pos (by omega)]; simp
theorem wu32 (t : Int) : IntKind.u32.wrap t = t % 4294967296 := by simp [IntKind.wrap, IntKind.bits, IntKind.signed]
theorem shr32 (k : IntKind) (hk : k.bits = 64) (t : Int) : shr k t 32 = t / 4294967296 := by
  unfold shr
  rw [hk]
  have : (2 : Int) ^ (min (Int.toNat 32) 64) = 4294967296 := by decide
  rw [this, Int.fdiv_eq_ediv_of_nonneg _ (by decide)]

theorem clip_ok (l : List Int) : clipU_m l = some l := by
  unfold clipU_m slc3
  rw [if_pos rfl]
  have := slc_ok l 0 l.length ⟨Nat.zero_le _, Nat.le_refl _⟩
  simp only [Int.natCast_zero] at this
  rw [this]; simp
theorem trimmed_L : ∀ (n : Nat) (a : List Int), a.length < n → a.length ≤ 4294967296 → Lim a → ∃ t, natTrimmed_L1 n a = some t ∧ IsN t (nv a) ∧ t.length ≤ a.length
  | 0, a, h, _, _ => by omega
  | n + 1, a, h, hb, hl => by
    show ∃ t, natTrimmed_B1 (natTrimmed_L1 n) a = some t ∧ _
    unfold natTrimmed_B1
    by_cases h0 : a = []
    · subst h0
      exact ⟨[], by simp [gopt, clip_ok], IsN.nil, Nat.le_refl _⟩
    · obtain ⟨b, x, rfl⟩ := split_last h0
      have e1 : (decide (0 < (((b ++ [x]).length : Nat) : Int)) == true) = true := by simp <;> omega
      have e2 : IntKind.i64.wrap ((((b ++ [x]).length : Nat) : Int) - 1) = (b.length : Int) := by rw [wr_i64 (by simp at * <;> omega) (by simp at * <;> omega)]; simp <;> omega
      have e3 : decide (0 < (((b ++ [x]).length : Nat) : Int)) = true := by simp <;> omega
      simp only [e1, e2, e3, gopt, cond_true, idx_nat, Bool.true_and]
      have e4 : (b ++ [x])[b.length]? = some x := by simp
      simp only [e4, Option.bind_some]
      by_cases hx : x = 0
      · subst hx
        have e5 := slc_ok (b ++ [0]) 0 b.length ⟨Nat.zero_le _, by simp⟩
        simp only [Int.natCast_zero] at e5
        simp only [BEq.rfl, cond_true, e5, Option.bind_some, List.drop_zero, Nat.sub_zero, List.take_left]
        obtain ⟨t, h1, h2, h3⟩ := trimmed_L n b (by simp at h; omega) (by simp at hb; omega) hl.left
        refine ⟨t, h1, ⟨h2.lim, h2.trm, ?_⟩, by simp <;> omega⟩
        rw [h2.val, nv_append]; simp [nv]
      · have e5 : (x == 0) = false := by simp [hx]
        simp only [BEq.rfl, cond_true, Option.bind_some, e5, cond_false, clip_ok]
        exact ⟨_, rfl, IsN.self hl (fun y hy => by simp at hy; subst hy; exact hx), Nat.le_refl _⟩
theorem FUEL_big : FUEL = 1000000000000 := rfl
theorem trimmed_ok (a : List Int) (hb : a.length ≤ 4294967296) (hl : Lim a) : ∃ t, natTrimmed_m a = some t ∧ IsN t (nv a) ∧ t.length ≤ a.length := trimmed_L FUEL a (by rw [FUEL_big]; omega) hb hl
/-- What is answered of the natural v. -/
def Ans (o : Option (List Int × Int)) (v : Int) : Prop := ∃ t, IsN t v ∧ o = some (if t.length ≤ 64 then (t, 0) else ([], 6))
theorem bounded_ok (a : List Int) (hb : a.length ≤ 4294967296) (hl : Lim a) : Ans (natBounded_m a) (nv a) := by
  obtain ⟨t, h1, h2, h3⟩ := trimmed_ok a hb hl
  refine ⟨t, h2, ?_⟩
  unfold natBounded_m
  simp only [h1, Option.bind_some]
  by_cases h : t.length ≤ 64
  · rw [if_pos h, show decide (64 < ((t.length : Nat) : Int)) = false by simp <;> omega]; rfl
  · rw [if_neg h, show decide (64 < ((t.length : Nat) : Int)) = true by simp <;> omega]; rfl
def Rt (a : List Int) : Bool := decide (a.length ≤ 64) && (match a.getLast? with | none => true | some x => x != 0)
theorem Rt_iff (a : List Int) : Rt a = true ↔ a.length ≤ 64 ∧ Trm a := by
  unfold Rt Trm
  rw [Bool.and_eq_true, decide_eq_true_eq]
  cases h : a.getLast? with
  | none => simp
  | some x => simp
theorem right_ok (a : List Int) (hb : a.length ≤ 4294967296) : natRight_m a = some (Rt a) := by
  unfold natRight_m Rt
  by_cases h0 : a = []
  · subst h0; rfl
  · obtain ⟨b, x, rfl⟩ := split_last h0
    have e2 : IntKind.i64.wrap ((((b ++ [x]).length : Nat) : Int) - 1) = (b.length : Int) := by rw [wr_i64 (by simp at * <;> omega) (by simp at * <;> omega)]; simp <;> omega
    have e3 : ((((b ++ [x]).length : Nat) : Int) == 0) = false := by rw [beq_eq_false_iff_ne]; simp; omega
    have e4 : (b ++ [x])[b.length]? = some x := by simp
    simp only [e2, e3, idx_nat, e4, gopt]
    by_cases h : (b ++ [x]).length ≤ 64
    · have h' : decide ((((b ++ [x]).length : Nat) : Int) ≤ 64) = true := by simp at * <;> omega
      simp [h, h', -List.length_append]
    · have h' : decide ((((b ++ [x]).length : Nat) : Int) ≤ 64) = false := by simp at * <;> omega
      simp [h, h', -List.length_append]
end Go.Proofs.Ytkkhgcllbbffaaa
