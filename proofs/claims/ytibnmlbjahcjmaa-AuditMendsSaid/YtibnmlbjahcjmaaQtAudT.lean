/- Facts that the statement's proof is made of. No condition. -/
import Derived.Test.YtibnmlbjahcjmaaQtAudS
set_option linter.unusedVariables false
set_option linter.unusedSimpArgs false
set_option maxRecDepth 20000
set_option maxHeartbeats 1000000
namespace Go.Proofs.Ytibnmlbjahcjmaa
open Go Go.AM Go.Pl Go.Pt
theorem cl_app_le {n : Nat} {l : List E} : ∀ (a : List E), InR n (a ++ l) → cl n (a ++ l) ≤ cl n l
  | [], _ => Nat.le_refl _
  | e :: a, h => by
    have h1 := cl_cons (l := a ++ l) h
    have h2 := cl_app_le a (InR.tail h)
    have : cl n (e :: a ++ l) = cl n (e :: (a ++ l)) := rfl
    rw [this]
    split at h1 <;> omega
theorem cl_app_eq {n : Nat} {l : List E} : ∀ (a : List E), InR n (a ++ l) → cl n (a ++ l) = cl n l → ∀ e, e ∈ a → Conn l e.1 e.2
  | [], _, _, e, he => by cases he
  | x :: a, h, hq, e, he => by
    have h1 := cl_cons (l := a ++ l) h
    have h2 := cl_app_le a (InR.tail h)
    have h3 : cl n (x :: (a ++ l)) = cl n l := hq
    have h4 : cl n (a ++ l) = cl n l := by split at h1 <;> omega
    have ih := cl_app_eq a (InR.tail h) h4
    rcases List.mem_cons.1 he with q | q
    · subst q
      have hc : partf (a ++ l) e.1 = partf (a ++ l) e.2 := Classical.byContradiction fun c => by rw [if_neg c] at h1; omega
      refine ((partf_iff _).1 hc).bind fun c d hm => ?_
      rcases List.mem_append.1 hm with m | m
      · exact ih _ m
      · exact .one m
    · exact ih e q
theorem app_conn {l l' : List E} (h : ∀ e, e ∈ l → e ∈ l') (x y : Int) : Conn (l' ++ l) x y ↔ Conn l' x y := conn_mem (fun e => by simp; exact h e) x y
theorem InR.app {n : Nat} {l l' : List E} (h : ∀ e, e ∈ l → e ∈ l') (hr : InR n l') : InR n (l' ++ l) := fun e he => by
  rcases List.mem_append.1 he with m | m
  · exact hr e m
  · exact hr e (h e m)
theorem cl_sub_le {n : Nat} {l l' : List E} (h : ∀ e, e ∈ l → e ∈ l') (hr : InR n l') : cl n l' ≤ cl n l := by
  rw [← cl_congr (app_conn h)]; exact cl_app_le l' (InR.app h hr)
theorem cl_sub_eq {n : Nat} {l l' : List E} (h : ∀ e, e ∈ l → e ∈ l') (hr : InR n l') (hq : cl n l' = cl n l) : ∀ e, e ∈ l' → Conn l e.1 e.2 :=
  cl_app_eq l' (InR.app h hr) (by rw [cl_congr (app_conn h)]; exact hq)
theorem en_sub {l l' : List GEdge} (h : ∀ e, e ∈ l → e ∈ l') : ∀ e, e ∈ en l → e ∈ en l' := fun e he => by
  unfold en at *
  obtain ⟨x, hx, rfl⟩ := List.mem_map.1 he
  exact List.mem_map.2 ⟨x, h x hx, rfl⟩
theorem btw_len (p : Int → Int) (l : List GEdge) : (btw p l).length = (en l).countP fun e => p e.1 != p e.2 := by
  unfold btw en; rw [List.countP_map, List.countP_eq_length_filter]; rfl
theorem btw_nil {p : Int → Int} {l : List GEdge} : (btw p l).length = 0 ↔ ∀ e, e ∈ en l → p e.1 = p e.2 := by
  rw [btw_len, List.countP_eq_zero]
  constructor
  · intro h e he; have := h e he; simpa using this
  · intro h e he; have := h e he; simp [this]
theorem exact_iff {n : Int} (h0 : 0 ≤ n) {l l' : List GEdge} (h : ∀ e, e ∈ l → e ∈ l') (hr : Rg n l') : (pt n l = pt n l' ↔ cl n.toNat (en l) = cl n.toNat (en l')) ∧ (pt n l = pt n l' ↔ (btw (partf (en l)) l').length = 0) := by
  have hs := en_sub h
  have hi := hr.inR h0
  have a1 : pt n l = pt n l' → ∀ e, e ∈ en l' → partf (en l) e.1 = partf (en l) e.2 := by
    intro q e he
    have r := hi e he
    have q1 := pt_idx (n := n) (l := l) (x := e.1) r.1 (by omega)
    have q2 := pt_idx (n := n) (l := l) (x := e.2) r.2.2.1 (by omega)
    have q3 := pt_idx (n := n) (l := l') (x := e.1) r.1 (by omega)
    have q4 := pt_idx (n := n) (l := l') (x := e.2) r.2.2.1 (by omega)
    rw [q, q3] at q1
    rw [q, q4] at q2
    have e1 := Option.some.inj q1
    have e2 := Option.some.inj q2
    have e3 : partf (en l') e.1 = partf (en l') e.2 := (partf_iff _).2 (.one he)
    omega
  have a2 : (∀ e, e ∈ en l' → partf (en l) e.1 = partf (en l) e.2) → ∀ x y, Conn (en l) x y ↔ Conn (en l') x y := fun q x y => ⟨fun k => k.mono hs, fun k => k.bind fun a b hm => (partf_iff _).1 (q (a, b) hm)⟩
  have a3 : (∀ x y, Conn (en l) x y ↔ Conn (en l') x y) → pt n l = pt n l' := fun q => by unfold pt; rw [partf_congr q]
  refine ⟨⟨fun q => cl_congr (a2 (a1 q)), fun q => a3 (a2 fun e he => (partf_iff _).2 (cl_sub_eq hs hi q.symm e he))⟩, ⟨fun q => btw_nil.2 (a1 q), fun q => a3 (a2 (btw_nil.1 q))⟩⟩
theorem partRefines_L {n : Int} (h0 : 0 ≤ n) (hn : n ≤ 1024) {l l' : List GEdge} (hr : Rg n l) (h : ∀ x y, Conn (en l) x y → Conn (en l') x y) : ∀ (m i : Nat), n.toNat < i + m → i ≤ n.toNat → partRefines_L1 m (pt n l') (pt n l) ((pt n l).length : Int) (i : Int) = some true
  | 0, i, _, _ => by omega
  | m + 1, i, hm, hi => by
    show partRefines_B1 (partRefines_L1 m) _ _ _ _ = _
    have hlen := pt_len n l
    unfold partRefines_B1
    by_cases c : i < n.toNat
    · have r := pf_rg hr (x := (i : Int)) (by omega) (by omega)
      have e : partf (en l') (i : Int) = partf (en l') (partf (en l) i) := (partf_iff _).2 (h _ _ (partf_conn _ _))
      rw [bt (by rw [hlen]; exact lt_t c), pt_idx (by omega) (by omega), some_bind', pt_idx (by omega) (by omega), some_bind', pt_idx r.1 r.2, some_bind', bf (by simp [e]), wr1 i (by omega)]
      exact partRefines_L h0 hn hr h m (i + 1) (by omega) (by omega)
    · rw [bf (by rw [hlen]; exact lt_f c)]
theorem partRefines_eq {n : Int} (h0 : 0 ≤ n) (hn : n ≤ 1024) {l l' : List GEdge} (hr : Rg n l) (hr' : Rg n l') (h : ∀ x y, Conn (en l) x y → Conn (en l') x y) : partRefines_m (pt n l) (pt n l') = some true := by
  have hFU := FU
  unfold partRefines_m
  rw [partRight_pt h0 hn hr, some_bind', partRight_pt h0 hn hr', gt' (by rfl), some_bind', bf (by rw [pt_len, pt_len]; simp), show (0 : Int) = ((0 : Nat) : Int) from rfl]
  exact partRefines_L h0 hn hr h FUEL 0 (by omega) (Nat.zero_le _)
end Go.Proofs.Ytibnmlbjahcjmaa
