/- Facts that the statement's proof is made of. No condition. -/
import Derived.Test.YtkdohhmacfoolaaGreatNaAudQ
set_option linter.unusedVariables false
set_option linter.unusedSimpArgs false
set_option maxRecDepth 20000
set_option maxHeartbeats 1000000
namespace Go.Proofs.YtkdohhmacfoolaaGreat
open Go Go.AM Go.Pl Go.Pt
theorem Rg.take {n : Int} {l : List GEdge} (h : Rg n l) (i : Nat) : Rg n (l.take i) := h.mono fun e he => List.mem_of_mem_take he
def hsB (l : List GHash) : Bool := l.all fun h => decide (h.A < 2305843009213693951) && decide (h.B < 2305843009213693951)
def tiB (t : Int) (l : List GEdge) : Bool := l.all fun e => decide (e.Tier ≤ t)
def cfB (g : GGraph) : Bool := decide (1 ≤ g.Config.N ∧ g.Config.N ≤ 1024 ∧ 1 ≤ g.Config.L ∧ g.Config.L ≤ 16 ∧ 1 ≤ g.Config.R ∧ g.Config.R ≤ 8 ∧ (g.Hashes.length : Int) = g.Config.L * g.Config.R)
def grB (g : GGraph) : Bool := cfB g && (hsB g.Hashes && (trB g.Config.N g.Edges && (tiB g.Config.L g.Edges && foB g.Config.N (fo g.Edges g.Config.L))))
theorem fo_Rg {n : Int} {l : List GEdge} (h : Rg n l) (t : Int) : Rg n (fo l t) := h.mono fun e he => mem_fo he
section
variable {g : GGraph} (hE : g.Edges.length < 1000000000) (hH : g.Hashes.length < 1000000000)
include hE
include hH
end
structure GOK (g : GGraph) : Prop where
  n1 : 1 ≤ g.Config.N
  n2 : g.Config.N ≤ 1024
  l1 : 1 ≤ g.Config.L
  l2 : g.Config.L ≤ 16
  r1 : 1 ≤ g.Config.R
  r2 : g.Config.R ≤ 8
  hl : (g.Hashes.length : Int) = g.Config.L * g.Config.R
  hs : hsB g.Hashes = true
  tr : trB g.Config.N g.Edges = true
  ti : tiB g.Config.L g.Edges = true
  fr : foB g.Config.N (fo g.Edges g.Config.L) = true
  rg : Rg g.Config.N g.Edges
end Go.Proofs.YtkdohhmacfoolaaGreat
