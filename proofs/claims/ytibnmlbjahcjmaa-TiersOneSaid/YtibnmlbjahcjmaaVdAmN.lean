/- Facts that the statement's proof is made of. No condition. -/
import Derived.Test.YtibnmlbjahcjmaaVdAmM
set_option linter.unusedSimpArgs false
set_option linter.unusedVariables false
set_option maxRecDepth 4000
namespace Go.AM
open Go.RowKit
def idxA {α : Type} (n : Nat) (l : List α) (i : Int) : Option α := if l.length = n then idx l i else none
theorem idxA_l {α : Type} {n : Nat} {l : List α} {i : Int} {a : α} (h : idxA n l i = some a) : l.length = n := by
  unfold idxA at h
  split at h
  · assumption
  · cases h
theorem idxA_i {α : Type} {n : Nat} {l : List α} {i : Int} {a : α} (h : idxA n l i = some a) : idx l i = some a := by
  unfold idxA at h
  split at h
  · exact h
  · cases h
variable {P : Program} {H : Heap} {ρ : Operand → AV}
theorem ap_idxa {t el : TypeId} {x i : Operand} {j m sz : Nat} {k : IntKind} {iv : Int} {lk : Nat} {xs : List AV} {α : Type} {l : List α} {a : α} (hu : P.underlying t = some (.array m el)) (hs : szOf P el = some sz)
    (hx : ρ x = .adr j 0) (he : H.ent j = .cells sz xs lk) (hi : ρ i = .v (.int k iv)) (hv : idxA m l iv = some a) : apure P H ρ (.indexAddr t x i) = some (.adr j (0 + iv.toNat * sz)) := by
  have hl := idxA_l hv
  obtain ⟨h1, h2, h3⟩ := idx_lt (idxA_i hv)
  simp only [apure, hx, hi, Heap.alive, he, if_true, aindexAddr, hu, hs]
  rw [if_pos ⟨h1, by omega⟩]
theorem aheap_alloca {elem : TypeId} {id N : Nat} {e : Nat → Ent} {α : Type} {c : α → List AV} {l : List α} (hz : zeroCells? P elem = some (l.flatMap c)) (hf : Heap.isFresh ⟨e, N⟩ id = true) :
    aheap P ⟨e, N⟩ id ρ (.alloc elem) = some (.adr id 0, ⟨upd e id (.cells 1 (l.flatMap c) 0), N⟩) := by
  simp only [aheap, hz, hf, if_true, put_mk]
end Go.AM
