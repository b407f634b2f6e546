/- Facts that the statement's proof is made of. No condition. -/
import Derived.Test.YtkdohhmacfoolaaGreatNaAudP
set_option linter.unusedVariables false
set_option linter.unusedSimpArgs false
set_option maxRecDepth 20000
set_option maxHeartbeats 1000000
namespace Go.Proofs.YtkdohhmacfoolaaGreat
open Go Go.AM Go.Pl Go.Pt
def Rg (n : Int) (l : List GEdge) : Prop := ∀ e, e ∈ l → 0 ≤ e.U ∧ e.U < n ∧ 0 ≤ e.V ∧ e.V < n
theorem Rg.inR {n : Int} {l : List GEdge} (h : Rg n l) (hn : 0 ≤ n) : InR n.toNat (en l) := by
  intro e he
  unfold en at he
  obtain ⟨x, hx, rfl⟩ := List.mem_map.1 he
  have := h x hx
  refine ⟨this.1, ?_, this.2.2.1, ?_⟩
  · show x.U < _; omega
  · show x.V < _; omega
theorem Rg.inR' {n : Int} {l : List GEdge} (h : Rg n l) : ∀ e, e ∈ en l → 0 ≤ e.1 ∧ e.1 < n ∧ 0 ≤ e.2 ∧ e.2 < n := by
  intro e he
  unfold en at he
  obtain ⟨x, hx, rfl⟩ := List.mem_map.1 he
  exact h x hx
theorem Rg.mono {n : Int} {l l' : List GEdge} (h : Rg n l) (hs : ∀ e, e ∈ l' → e ∈ l) : Rg n l' := fun e he => h e (hs e he)
theorem Rg.at {n : Int} {l : List GEdge} (h : Rg n l) {i : Nat} (c : i < l.length) : 0 ≤ l[i].U ∧ l[i].U < n ∧ 0 ≤ l[i].V ∧ l[i].V < n := h _ (List.getElem_mem c)
theorem mem_fo {l : List GEdge} {t : Int} {e : GEdge} (h : e ∈ fo l t) : e ∈ l := (List.mem_filter.1 h).1
def pt (n : Int) (l : List GEdge) : List Int := tab n (partf (en l))
theorem en_len (l : List GEdge) : (en l).length = l.length := by simp [en]
def foB (n : Int) (l : List GEdge) : Bool := decide (cl n.toNat (en l) + l.length = n.toNat)
def Iv (n : Int) (l : List GEdge) (p : List Int) : Prop := p.length = n.toNat ∧ ∀ k : Nat, k < n.toNat → ∃ y : Nat, p[k]? = some (y : Int) ∧ y ≤ k ∧ Conn (en l) k y
theorem Iv.set {n : Int} {l : List GEdge} {p : List Int} (h : Iv n l p) {v a : Nat} (hv : v < n.toNat) (hle : a ≤ v) (hc : Conn (en l) v a) : Iv n l (p.set v (a : Int)) := by
  refine ⟨by rw [List.length_set]; exact h.1, fun k hk => ?_⟩
  by_cases e : k = v
  · subst e; exact ⟨a, by rw [List.getElem?_set_self (by rw [h.1]; exact hk)], hle, hc⟩
  · obtain ⟨y, h1, h2⟩ := h.2 k hk
    exact ⟨y, by rw [List.getElem?_set_ne (fun q => e q.symm)]; exact h1, h2⟩
theorem Iv.done {n : Int} {l : List GEdge} {p : List Int} (h : Rg n l) (hI : Iv n l p) (he : ∀ j (hj : j < l.length), idx p l[j].U = idx p l[j].V) : p = pt n l := by
  refine eq_tab hI.1 fun k hk => ?_
  have key := part_unique (n := n) (l := en l) h.inR' (q := fun x => (p[x.toNat]?).getD 0) (fun x h0 hx => by
    obtain ⟨y, y1, y2, y3⟩ := hI.2 x.toNat (by omega)
    have e : ((x.toNat : Nat) : Int) = x := by omega
    rw [e] at y3
    simp only [y1, Option.getD_some]
    exact ⟨by omega, by omega, y3⟩) (fun e hm => by
    unfold en at hm
    obtain ⟨x, hx, rfl⟩ := List.mem_map.1 hm
    obtain ⟨j, hj, rfl⟩ := List.getElem_of_mem hx
    have r := h.at hj
    have := he j hj
    rw [idx_at (k := l[j].U.toNat) (by omega), idx_at (k := l[j].V.toNat) (by omega)] at this
    simp only [this]) (k : Int) (by omega) hk
  obtain ⟨y, y1, _⟩ := hI.2 k (by omega)
  simp only [Int.toNat_natCast, y1, Option.getD_some] at key
  rw [y1, key]
end Go.Proofs.YtkdohhmacfoolaaGreat
