/- Facts that the statement's proof is made of. No condition. -/
import Derived.Test.YtibnmlbjahcjmaaQvAudS
set_option linter.unusedVariables false
set_option linter.unusedSimpArgs false
set_option maxRecDepth 20000
set_option maxHeartbeats 1000000
namespace Go.Proofs.Ytibnmlbjahcjmaa
open Go Go.AM Go.Pl Go.Pt
theorem cl_app_le {n : Nat} {l : List E} : ∀ (a : List E), InR n (a ++ l) → cl n (a ++ l) ≤ cl n l
  | [], _ => Nat.le_refl _
  | e :: a, h => by
    have h1 := cl_cons (l := a ++ l) h
    have h2 := cl_app_le a (InR.tail h)
    have : cl n (e :: a ++ l) = cl n (e :: (a ++ l)) := rfl
    rw [this]
    split at h1 <;> omega
theorem app_conn {l l' : List E} (h : ∀ e, e ∈ l → e ∈ l') (x y : Int) : Conn (l' ++ l) x y ↔ Conn l' x y := conn_mem (fun e => by simp; exact h e) x y
theorem InR.app {n : Nat} {l l' : List E} (h : ∀ e, e ∈ l → e ∈ l') (hr : InR n l') : InR n (l' ++ l) := fun e he => by
  rcases List.mem_append.1 he with m | m
  · exact hr e m
  · exact hr e (h e m)
theorem cl_sub_le {n : Nat} {l l' : List E} (h : ∀ e, e ∈ l → e ∈ l') (hr : InR n l') : cl n l' ≤ cl n l := by
  rw [← cl_congr (app_conn h)]; exact cl_app_le l' (InR.app h hr)
theorem en_sub {l l' : List GEdge} (h : ∀ e, e ∈ l → e ∈ l') : ∀ e, e ∈ en l → e ∈ en l' := fun e he => by
  unfold en at *
  obtain ⟨x, hx, rfl⟩ := List.mem_map.1 he
  exact List.mem_map.2 ⟨x, h x hx, rfl⟩
theorem partRefines_L {n : Int} (h0 : 0 ≤ n) (hn : n ≤ 1024) {l l' : List GEdge} (hr : Rg n l) (h : ∀ x y, Conn (en l) x y → Conn (en l') x y) : ∀ (m i : Nat), n.toNat < i + m → i ≤ n.toNat → partRefines_L1 m (pt n l') (pt n l) ((pt n l).length : Int) (i : Int) = some true
  | 0, i, _, _ => by omega
  | m + 1, i, hm, hi => by
    show partRefines_B1 (partRefines_L1 m) _ _ _ _ = _
    have hlen := pt_len n l
    unfold partRefines_B1
    by_cases c : i < n.toNat
    · have r := pf_rg hr (x := (i : Int)) (by omega) (by omega)
      have e : partf (en l') (i : Int) = partf (en l') (partf (en l) i) := (partf_iff _).2 (h _ _ (partf_conn _ _))
      rw [bt (by rw [hlen]; exact lt_t c), pt_idx (by omega) (by omega), some_bind', pt_idx (by omega) (by omega), some_bind', pt_idx r.1 r.2, some_bind', bf (by simp [e]), wr1 i (by omega)]
      exact partRefines_L h0 hn hr h m (i + 1) (by omega) (by omega)
    · rw [bf (by rw [hlen]; exact lt_f c)]
theorem partRefines_eq {n : Int} (h0 : 0 ≤ n) (hn : n ≤ 1024) {l l' : List GEdge} (hr : Rg n l) (hr' : Rg n l') (h : ∀ x y, Conn (en l) x y → Conn (en l') x y) : partRefines_m (pt n l) (pt n l') = some true := by
  have hFU := FU
  unfold partRefines_m
  rw [partRight_pt h0 hn hr, some_bind', partRight_pt h0 hn hr', gt' (by rfl), some_bind', bf (by rw [pt_len, pt_len]; simp), show (0 : Int) = ((0 : Nat) : Int) from rfl]
  exact partRefines_L h0 hn hr h FUEL 0 (by omega) (Nat.zero_le _)
def bare (l : List GEdge) : List GEdge := l.map fun e => GEdge.mk e.U e.V 0
end Go.Proofs.Ytibnmlbjahcjmaa
