/- Facts that the statement's proof is made of. No condition. -/
import Derived.Test.YtibnmlbjahcjmaaVdRuR
set_option linter.unusedVariables false
set_option linter.unusedSimpArgs false
set_option maxRecDepth 20000
set_option maxHeartbeats 1000000
namespace Go.Proofs.Ytibnmlbjahcjmaa
open Go Go.AM Go.Pl Go.Pt
theorem law15Few_eq (c : GConfig) (acts : List GRaftsmanlaw15Act) : ∃ n : Int, law15Few_m c acts = some n ∧ (n < 0 ∨ (∃ k : Nat, n = k ∧ k ≤ 30 ∧ k ≤ acts.length ∧ c.N ≤ 12 ∧ c.L ≤ 4)) := by
  unfold law15Few_m
  by_cases h : ((((((decide (c.N < 1)) || (decide (c.L < 1))) || (decide (c.R < 1))) || (decide (12 < c.N))) || (decide (4 < c.L))) || (decide (3 < c.R))) = true
  · rw [bt h]; exact ⟨_, rfl, .inl (by decide)⟩
  · rw [Bool.not_eq_true] at h
    rw [bf h]
    simp only [Bool.or_eq_false_iff, decide_eq_false_iff_not] at h
    refine ⟨_, rfl, .inr ?_⟩
    by_cases q : 30 < (acts.length : Int)
    · rw [if_pos q]; exact ⟨30, rfl, by omega, by omega, by omega, by omega⟩
    · rw [if_neg q]; exact ⟨acts.length, rfl, by omega, by omega, by omega, by omega⟩
theorem grB_len {c : GConfig} {hs : List GHash} {es : List GEdge} (h : grB ⟨c, hs, es⟩ = true) : hs.length ≤ 128 := by
  have k := gok h
  have L2 : c.L ≤ 16 := k.l2
  have L1 : 1 ≤ c.L := k.l1
  have R1 : 1 ≤ c.R := k.r1
  have R2 : c.R ≤ 8 := k.r2
  have h2 : c.L * c.R ≤ 16 * 8 := Int.mul_le_mul L2 R2 (by omega) (by omega)
  have hl : (hs.length : Int) = c.L * c.R := k.hl
  omega
theorem searchRight_big {g : GGraph} (hb : 128 < g.Hashes.length) : searchRight_m g = some false ∧ grB g = false := by
  unfold searchRight_m grB
  by_cases c : 1 ≤ g.Config.N ∧ g.Config.N ≤ 1024 ∧ 1 ≤ g.Config.L ∧ g.Config.L ≤ 16 ∧ 1 ≤ g.Config.R ∧ g.Config.R ≤ 8
  · have h2 : g.Config.L * g.Config.R ≤ 16 * 8 := Int.mul_le_mul (by omega) (by omega) (by omega) (by omega)
    have k : (g.Hashes.length : Int) ≠ g.Config.L * g.Config.R := by omega
    rw [bf (by simp; omega), LR_wrap ⟨c.2.2.1, c.2.2.2.1, c.2.2.2.2⟩, bt (by simp [k])]
    have : cfB g = false := by unfold cfB; rw [decide_eq_false_iff_not]; exact fun q => k q.2.2.2.2.2.2
    rw [this]; exact ⟨rfl, rfl⟩
  · have : cfB g = false := by unfold cfB; rw [decide_eq_false_iff_not]; exact fun q => c ⟨q.1, q.2.1, q.2.2.1, q.2.2.2.1, q.2.2.2.2.1, q.2.2.2.2.2.1⟩
    rw [bt (by simp; omega), this]; exact ⟨rfl, rfl⟩
theorem tiersNew_eq (c : GConfig) {hs : List GHash} (hl : hs.length ≤ 8796093022207) : tiersNew_m c hs = some (if grB ⟨c, hs, []⟩ then (⟨c, hs, []⟩, 0) else (⟨⟨0, 0, 0⟩, [], []⟩, 1)) := by
  unfold tiersNew_m slicesCloneHash_m
  rw [appB_ok (by simp; omega), some_bind', List.nil_append]
  by_cases q : hs.length ≤ 1048576
  · rw [searchRight_eq (by simp) (by simp; omega), some_bind']
    cases grB ⟨c, hs, []⟩ <;> rfl
  · obtain ⟨q1, q2⟩ := searchRight_big (g := ⟨c, hs, []⟩) (by simp; omega)
    rw [q1, q2, some_bind']; rfl
def NoL (g : GGraph) : Prop := ∀ k x, 0 ≤ k → k < g.Config.L → ¬ Lon g k x
theorem NoL.new (c : GConfig) (hs : List GHash) : NoL ⟨c, hs, []⟩ := fun k x _ _ h => by
  have := h.2
  unfold srch cutE at this
  rw [show List.filter (fun e => inQ (pf ⟨c, hs, []⟩ k) x (uv e)) [] = [] from rfl, srchE_nil] at this
  cases this
theorem NoL.nil {g : GGraph} (h : GOK g) (n : NoL g) : lonT g 0 = [] := List.eq_nil_iff_forall_not_mem.2 fun q hq => by
  obtain ⟨a, b, c, d, e⟩ := mem_lonT.1 hq
  exact n _ _ a b ((lon_iff h c d).1 e).2
structure ActF (g g2 : GGraph) : Prop where
  gd : GD g2
  c : g2.Config = g.Config
  len : g2.Edges.length ≤ g.Edges.length + 1
  nol : NoL g → NoL g2
theorem ActF.refl {g : GGraph} (h : GD g) : ActF g g := ⟨h, rfl, by omega, id⟩
theorem fEnds_uv {u v : Int} {e : GEdge} (h : fEnds u v e = true) : (e.U = u ∧ e.V = v) ∨ (e.U = v ∧ e.V = u) := by
  unfold fEnds at h
  simp only [Bool.or_eq_true, Bool.and_eq_true, beq_iff_eq] at h
  omega
abbrev WH (hs : List GHash) (P : Prop) : Prop := (∀ y, y ∈ hs → ((Lit.int .u64 y.A).wf = true) ∧ ((Lit.int .u64 y.B).wf = true)) ∧ P
theorem WH.hw {hs : List GHash} {P : Prop} (w : WH hs P) : ∀ x, x ∈ hs → HOK x := fun x hx => ⟨wfu (w.1 x hx).1, wfu (w.1 x hx).2⟩
end Go.Proofs.Ytibnmlbjahcjmaa
