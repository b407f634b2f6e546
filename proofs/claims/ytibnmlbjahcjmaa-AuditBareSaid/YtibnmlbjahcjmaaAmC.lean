/- A machine over abstract values: reading list elements. No condition. -/
import Derived.Test.YtibnmlbjahcjmaaAmB
set_option linter.unusedSimpArgs false
set_option linter.unusedVariables false
set_option maxRecDepth 4000
namespace Go.AM

/-! The abstract machine, part 23: reading list elements. -/
section
open Go.RowKit

variable {P : Program} {H : Heap}

theorem aindexAddr_sl {t elem : TypeId} {xs : List AV} {len sz : Nat} {f : Bool} {k : IntKind} {n : Int} (hu : P.underlying t = some (.slice elem)) (hsz : szOf P elem = some sz) (h0 : 0 ≤ n) (h1 : n < len) (hx : 0 < xs.length) :
    aindexAddr P t (.sl xs len f) (.v (.int k n)) = some (.ptr (xs.drop (n.toNat * sz))) := by
  have hne : xs ≠ [] := by intro e; subst e; simp at hx
  simp only [aindexAddr, hu, hsz]
  rw [if_pos ⟨h0, h1⟩, if_neg hne]
theorem aindexAddr_own {t elem : TypeId} {id off len sz : Nat} {k : IntKind} {n : Int} (hu : P.underlying t = some (.slice elem)) (hsz : szOf P elem = some sz) (h0 : 0 ≤ n) (h1 : n < len) :
    aindexAddr P t (.own id off len) (.v (.int k n)) = some (.adr id (off + n.toNat * sz)) := by
  simp only [aindexAddr, hu, hsz]
  rw [if_pos ⟨h0, h1⟩]
/-- The element at a place, of elements of one cell. -/
theorem aload_drop {t : TypeId} {d : TypeDesc} {xs : List AV} {n : Nat} {a : AV} (hu : P.underlying t = some d) (hd : TypeDesc.isAgg d = false) (h : xs[n]? = some a) : aload P H t (.ptr (xs.drop (n * 1))) = some a := by
  simp only [aload, acellsAt, hu, hd]
  simp [h]
theorem aload_own {t : TypeId} {d : TypeDesc} {e : Nat → Ent} {N id off sz lk : Nat} {xs : List AV} {a : AV} (hu : P.underlying t = some d) (hd : TypeDesc.isAgg d = false) (he : e id = .cells sz xs lk) (h : xs[off]? = some a) :
    aload P ⟨e, N⟩ t (.adr id off) = some a := by
  simp only [aload, acellsAt, hu, hd, he]
  simp [h]
/-- The element at a place, of elements of several cells. -/
theorem aload_agg {t : TypeId} {d : TypeDesc} {xs : List AV} {k n : Nat} (hu : P.underlying t = some d) (hd : TypeDesc.isAgg d = true) (hs : szOf P t = some n) (h : k + n ≤ xs.length) : aload P H t (.ptr (xs.drop k)) = some (.agg ((xs.drop k).take n)) := by
  simp only [aload, acellsAt, hu, hd, hs]
  rw [if_pos trivial, if_pos (by simp; omega)]
theorem size_pos2 {n : Nat} (h : (((n : Int) == 0) == false) = true) : (0 : Int) < (n : Int) := by
  rcases Nat.eq_zero_or_pos n with h0 | h0
  · subst h0; simp at h
  · omega
end

end Go.AM
