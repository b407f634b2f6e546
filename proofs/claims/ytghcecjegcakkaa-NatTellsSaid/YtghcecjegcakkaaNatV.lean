/- The laws of naturals, at arguments as they come in. -/
import Derived.Test.YtghcecjegcakkaaNatU
import Derived.Test.YtghcecjegcakkaaAmE
set_option linter.unusedVariables false
set_option linter.unusedSimpArgs false
namespace Go.Proofs.Ytghcecjegcakkaa
open Go Go.AM Go.Pl
theorem lim_wf {l : List Int} (h : (∀ y, y ∈ l → (Lit.int .u32 y).wf = true) ∧ l.length ≤ maxLen) : Lim l := fun x hx => by have := bounds_u32 (h.1 x hx); omega
theorem NatTells_w (a b : List Int) (n : Int) (ha : (∀ y, y ∈ a → (Lit.int .u32 y).wf = true) ∧ a.length ≤ maxLen) (hb : (∀ y, y ∈ b → (Lit.int .u32 y).wf = true) ∧ b.length ≤ maxLen) (hn : (Lit.int .u64 n).wf = true) : NatTells_m a b n = some true :=
  NatTells_t a b n (lim_wf ha) (lim_wf hb) (by have := bounds_u64 hn; omega)
end Go.Proofs.Ytghcecjegcakkaa
