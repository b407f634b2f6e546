/- Facts that the statement's proof is made of. No condition. -/
import Derived.Test.YtibnmlbjahcjmaaQuAudS
set_option linter.unusedVariables false
set_option linter.unusedSimpArgs false
set_option maxRecDepth 20000
set_option maxHeartbeats 1000000
namespace Go.Proofs.Ytibnmlbjahcjmaa
open Go Go.AM Go.Pl Go.Pt
theorem cl_app_le {n : Nat} {l : List E} : ∀ (a : List E), InR n (a ++ l) → cl n (a ++ l) ≤ cl n l
  | [], _ => Nat.le_refl _
  | e :: a, h => by
    have h1 := cl_cons (l := a ++ l) h
    have h2 := cl_app_le a (InR.tail h)
    have : cl n (e :: a ++ l) = cl n (e :: (a ++ l)) := rfl
    rw [this]
    split at h1 <;> omega
theorem app_conn {l l' : List E} (h : ∀ e, e ∈ l → e ∈ l') (x y : Int) : Conn (l' ++ l) x y ↔ Conn l' x y := conn_mem (fun e => by simp; exact h e) x y
theorem InR.app {n : Nat} {l l' : List E} (h : ∀ e, e ∈ l → e ∈ l') (hr : InR n l') : InR n (l' ++ l) := fun e he => by
  rcases List.mem_append.1 he with m | m
  · exact hr e m
  · exact hr e (h e m)
theorem cl_sub_le {n : Nat} {l l' : List E} (h : ∀ e, e ∈ l → e ∈ l') (hr : InR n l') : cl n l' ≤ cl n l := by
  rw [← cl_congr (app_conn h)]; exact cl_app_le l' (InR.app h hr)
theorem en_sub {l l' : List GEdge} (h : ∀ e, e ∈ l → e ∈ l') : ∀ e, e ∈ en l → e ∈ en l' := fun e he => by
  unfold en at *
  obtain ⟨x, hx, rfl⟩ := List.mem_map.1 he
  exact List.mem_map.2 ⟨x, h x hx, rfl⟩
end Go.Proofs.Ytibnmlbjahcjmaa
