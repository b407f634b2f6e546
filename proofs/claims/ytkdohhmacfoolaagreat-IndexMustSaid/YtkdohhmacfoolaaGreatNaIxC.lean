/- Facts that the statement's proof is made of. No condition. -/
import Derived.Test.YtkdohhmacfoolaaGreatNaRuP
import Derived.Test.YtkdohhmacfoolaaGreatNaIxA
set_option linter.unusedVariables false
set_option linter.unusedSimpArgs false
set_option maxRecDepth 20000
set_option maxHeartbeats 1000000
namespace Go.Proofs.YtkdohhmacfoolaaGreat
open Go Go.AM Go.Pl Go.Pt
end Go.Proofs.YtkdohhmacfoolaaGreat
set_option linter.unusedVariables false
set_option linter.unusedSimpArgs false
set_option maxRecDepth 20000
set_option maxHeartbeats 1000000
namespace Go.Proofs.YtkdohhmacfoolaaGreat
open Go Go.AM Go.Pl Go.Pt
end Go.Proofs.YtkdohhmacfoolaaGreat
set_option linter.unusedVariables false
set_option linter.unusedSimpArgs false
set_option maxRecDepth 20000
set_option maxHeartbeats 1000000
namespace Go.Proofs.YtkdohhmacfoolaaGreat
open Go Go.AM Go.Pl Go.Pt
def NoL (g : GGraph) : Prop := ∀ k x, 0 ≤ k → k < g.Config.L → ¬ Lon g k x
theorem NoL.new (c : GConfig) (hs : List GHash) : NoL ⟨c, hs, []⟩ := fun k x _ _ h => by
  have := h.2
  unfold srch cutE at this
  rw [show List.filter (fun e => inQ (pf ⟨c, hs, []⟩ k) x (uv e)) [] = [] from rfl, srchE_nil] at this
  cases this
theorem NoL.nil {g : GGraph} (h : GOK g) (n : NoL g) : lonT g 0 = [] := List.eq_nil_iff_forall_not_mem.2 fun q hq => by
  obtain ⟨a, b, c, d, e⟩ := mem_lonT.1 hq
  exact n _ _ a b ((lon_iff h c d).1 e).2
structure ActF (g g2 : GGraph) : Prop where
  gd : GD g2
  c : g2.Config = g.Config
  len : g2.Edges.length ≤ g.Edges.length + 1
  nol : NoL g → NoL g2
theorem ActF.refl {g : GGraph} (h : GD g) : ActF g g := ⟨h, rfl, by omega, id⟩
abbrev WH (hs : List GHash) (P : Prop) : Prop := (∀ y, y ∈ hs → ((Lit.int .u64 y.A).wf = true) ∧ ((Lit.int .u64 y.B).wf = true)) ∧ P
theorem WH.hw {hs : List GHash} {P : Prop} (w : WH hs P) : ∀ x, x ∈ hs → HOK x := fun x hx => ⟨wfu (w.1 x hx).1, wfu (w.1 x hx).2⟩
end Go.Proofs.YtkdohhmacfoolaaGreat
set_option linter.unusedVariables false
set_option linter.unusedSimpArgs false
set_option maxRecDepth 20000
set_option maxHeartbeats 1000000
namespace Go.Proofs.YtkdohhmacfoolaaGreat
open Go Go.AM Go.Pl Go.Pt Go.Ix
abbrev At (l : List GVertsSlot) (j : Nat) (k : Int) : Prop := l[j]? = some ⟨true, k⟩
structure VOK (l : List GVertsSlot) : Prop where
  n1 : 1 ≤ l.length
  n2 : l.length ≤ 1024
  z : ∀ s, s ∈ l → s.Used = false → s.Key = 0
  inj : ∀ i j k, At l i k → At l j k → i = j
def Usd (l : List GVertsSlot) (v : Int) : Prop := ∃ k, At l v.toNat k
structure SOK (s : GSnapState) : Prop where
  g : grB s.Graph = true
  v : VOK s.Slots
  len : (s.Slots.length : Int) = s.Graph.Config.N
  us : ∀ e, e ∈ s.Graph.Edges → Usd s.Slots e.U ∧ Usd s.Slots e.V
end Go.Proofs.YtkdohhmacfoolaaGreat
