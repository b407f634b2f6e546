/- Facts that the statement's proof is made of. No condition. -/
import Derived.Test.YtkdohhmacfoolaaGreatNbPt
set_option linter.unusedSimpArgs false
set_option linter.unusedVariables false
namespace Go.Ix
open Go.Pt
structure Srt (L : List Int) (S : Int → Prop) : Prop where
  up : L.Pairwise (· < ·)
  mem : ∀ x, x ∈ L ↔ S x
theorem aPx : ∀ {a b : List Int}, a.Pairwise (· < ·) → b.Pairwise (· < ·) → (∀ x, x ∈ a ↔ x ∈ b) → a = b
  | [], [], _, _, _ => rfl
  | [], y :: b, _, _, h => absurd ((h y).2 (List.mem_cons_self ..)) (by simp)
  | x :: a, [], _, _, h => absurd ((h x).1 (List.mem_cons_self ..)) (by simp)
  | x :: a, y :: b, ha, hb, h => by
    obtain ⟨a1, a2⟩ := List.pairwise_cons.1 ha
    obtain ⟨b1, b2⟩ := List.pairwise_cons.1 hb
    have e : x = y := by
      have h1 := (h x).1 (List.mem_cons_self ..)
      have h2 := (h y).2 (List.mem_cons_self ..)
      rcases List.mem_cons.1 h1 with q | q
      · exact q
      · rcases List.mem_cons.1 h2 with w | w
        · exact w.symm
        · have := b1 x q
          have := a1 y w
          omega
    subst e
    rw [aPx a2 b2 fun z => ?_]
    constructor
    · intro q
      rcases List.mem_cons.1 ((h z).1 (List.mem_cons_of_mem _ q)) with w | w
      · subst w; exact absurd (a1 z q) (by omega)
      · exact w
    · intro q
      rcases List.mem_cons.1 ((h z).2 (List.mem_cons_of_mem _ q)) with w | w
      · subst w; exact absurd (b1 z q) (by omega)
      · exact w
theorem Srt.uniq {a b : List Int} {S S' : Int → Prop} (h : Srt a S) (k : Srt b S') (e : ∀ x, S x ↔ S' x) : a = b :=
  aPx h.up k.up fun x => (h.mem x).trans ((e x).trans (k.mem x).symm)
theorem Srt.nodup {a : List Int} {S : Int → Prop} (h : Srt a S) : a.Nodup := h.up.imp fun q => by omega
end Go.Ix
