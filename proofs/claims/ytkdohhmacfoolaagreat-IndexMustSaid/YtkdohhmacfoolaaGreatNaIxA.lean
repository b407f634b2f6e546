/- Facts that the statement's proof is made of. No condition. -/
import Derived.Test.YtkdohhmacfoolaaGreatNaGI4
import Derived.Test.YtkdohhmacfoolaaGreatNaPw
import Derived.Test.YtkdohhmacfoolaaGreatNaPt
set_option linter.unusedVariables false
set_option linter.unusedSimpArgs false
set_option maxRecDepth 20000
set_option maxHeartbeats 1000000
namespace Go.Proofs.YtkdohhmacfoolaaGreat
open Go Go.AM Go.Pl
def sls : GSeqSeqPair → List GDictPair
  | .nil => []
  | .mk a b th _ _ => sls a ++ th :: sls b
def hg : GSeqSeqPair → Nat
  | .nil => 0
  | .mk a b _ _ _ => (if hg a < hg b then hg b else hg a) + 1
def WT : GSeqSeqPair → Prop
  | .nil => True
  | .mk a b _ h s => WT a ∧ WT b ∧ h = (((if hg a < hg b then hg b else hg a) + 1 : Nat) : Int) ∧ s = (((sls a).length + 1 + (sls b).length : Nat) : Int)
structure DOK (d : GDictDict) : Prop where
  wt : WT d.s
  up : (sls d.s).Pairwise fun a b => a.Key < b.Key
theorem DOK.nil : DOK ⟨.nil⟩ := ⟨trivial, List.Pairwise.nil⟩
end Go.Proofs.YtkdohhmacfoolaaGreat
set_option linter.unusedSimpArgs false
set_option linter.unusedVariables false
namespace Go.Ix
open Go.Pt
structure Srt (L : List Int) (S : Int → Prop) : Prop where
  up : L.Pairwise (· < ·)
  mem : ∀ x, x ∈ L ↔ S x
theorem up_uniq : ∀ {a b : List Int}, a.Pairwise (· < ·) → b.Pairwise (· < ·) → (∀ x, x ∈ a ↔ x ∈ b) → a = b
  | [], [], _, _, _ => rfl
  | [], y :: b, _, _, h => absurd ((h y).2 (List.mem_cons_self ..)) (by simp)
  | x :: a, [], _, _, h => absurd ((h x).1 (List.mem_cons_self ..)) (by simp)
  | x :: a, y :: b, ha, hb, h => by
    obtain ⟨a1, a2⟩ := List.pairwise_cons.1 ha
    obtain ⟨b1, b2⟩ := List.pairwise_cons.1 hb
    have e : x = y := by
      have h1 := (h x).1 (List.mem_cons_self ..)
      have h2 := (h y).2 (List.mem_cons_self ..)
      rcases List.mem_cons.1 h1 with q | q
      · exact q
      · rcases List.mem_cons.1 h2 with w | w
        · exact w.symm
        · have := b1 x q
          have := a1 y w
          omega
    subst e
    rw [up_uniq a2 b2 fun z => ?_]
    constructor
    · intro q
      rcases List.mem_cons.1 ((h z).1 (List.mem_cons_of_mem _ q)) with w | w
      · subst w; exact absurd (a1 z q) (by omega)
      · exact w
    · intro q
      rcases List.mem_cons.1 ((h z).2 (List.mem_cons_of_mem _ q)) with w | w
      · subst w; exact absurd (b1 z q) (by omega)
      · exact w
theorem Srt.uniq {a b : List Int} {S S' : Int → Prop} (h : Srt a S) (k : Srt b S') (e : ∀ x, S x ↔ S' x) : a = b :=
  up_uniq h.up k.up fun x => (h.mem x).trans ((e x).trans (k.mem x).symm)
theorem Srt.nodup {a : List Int} {S : Int → Prop} (h : Srt a S) : a.Nodup := h.up.imp fun q => by omega
end Go.Ix
