/-
  No cell of these rows narrows 'for every input' (looked for: loops, veiled, ifaces, maps, wideKeys, modest, calm, conditions, laid).
  DERIVED. THE GIVEN ROWS OF THIS SEAT. 6 by the template 'for every input the law returns true; each argument reads behind the call as it read before'; 0 by the template 'total and deterministic' (their statements: YtkkhgcllbbffaaaTotals.lean).
  GIVEN WITH THE SEED: the statements are not yours to turn. If you find one false, say at which input.
  Laid BY PROGRAM, IN A SANDBOX (cutbox-rows.mjs): the forced cells as the released guide's own fill.sh prints them over the translation 50834ce40fac801e… (all of the seat's roots in one cut). By AI agents, Wed Nov 11 2026. No macro, syntax, notation, axiom, sorry.
-/
import Derived.Test.YtkkhgcllbbffaaaChecked
import GoSem.Claim
import GoSem.ClaimJoined
import GoSem.ClaimMapViews
import Derived.JoinedTies
import Derived.KernelRfl
namespace Go.Proofs.Ytkkhgcllbbffaaa
/- THE CELL 'sum', in the pinned program and in every row, IS THE sha256 OF THE DUMP (.gsa) THAT YtkkhgcllbbffaaaProg.lean LOADS. Nothing in Lean hashes anything: it is a label: what it is worth is what the hold of that sum in a sandbox is worth. -/
noncomputable def Try.pinned : Pinned := { name := "ytkkhgcllbbffaaa", sum := "50834ce40fac801ef36df019aee4e16ed49a7d7ee4e7b8dfd2012fedb775a584", checked := Try.checked }
namespace Rows
def none {H : Type} : Left H := { results := [], args := [] }

/-- 'raftsmanlaw18.PlanTells': WHATEVER THE INPUT: true; the input reads as it did. -/
def planTellsSpec : ChangeSpec := { name := "planTells", fn := fun _ => fun
  | [d1, d2, d3, d4, d5] => { results := [.lit (.bool true)], args := [d1, d2, d3, d4, d5] }
  | _ => none }
def planTellsRow : OpenClaim := { program := "ytkkhgcllbbffaaa", sum := "50834ce40fac801ef36df019aee4e16ed49a7d7ee4e7b8dfd2012fedb775a584", func := "raftsman/raftsmanlaw18.PlanTells", spec := "planTells", apart := false }
def PlanTellsSaid : Prop := planTellsRow.holds Try.pinned (OpenSpec.ofChange planTellsSpec)

/-- ITS FALSE NEIGHBOUR: 'it returns false'. Refute it at one input. -/
def planTellsWrong : ChangeSpec := { name := "planTells", fn := fun _ => fun
  | [d1, d2, d3, d4, d5] => { results := [.lit (.bool false)], args := [d1, d2, d3, d4, d5] }
  | _ => none }
def PlanTellsWrongFalsely : Prop := planTellsRow.holds Try.pinned (OpenSpec.ofChange planTellsWrong)

/-- 'raftsmanlaw18.PlanLeast': WHATEVER THE INPUT: true; the input reads as it did. -/
def planLeastSpec : ChangeSpec := { name := "planLeast", fn := fun _ => fun
  | [d1, d2, d3] => { results := [.lit (.bool true)], args := [d1, d2, d3] }
  | _ => none }
def planLeastRow : OpenClaim := { program := "ytkkhgcllbbffaaa", sum := "50834ce40fac801ef36df019aee4e16ed49a7d7ee4e7b8dfd2012fedb775a584", func := "raftsman/raftsmanlaw18.PlanLeast", spec := "planLeast", apart := false }
def PlanLeastSaid : Prop := planLeastRow.holds Try.pinned (OpenSpec.ofChange planLeastSpec)

/-- ITS FALSE NEIGHBOUR: 'it returns false'. Refute it at one input. -/
def planLeastWrong : ChangeSpec := { name := "planLeast", fn := fun _ => fun
  | [d1, d2, d3] => { results := [.lit (.bool false)], args := [d1, d2, d3] }
  | _ => none }
def PlanLeastWrongFalsely : Prop := planLeastRow.holds Try.pinned (OpenSpec.ofChange planLeastWrong)

/-- 'raftsmanlaw18.PlanMore': WHATEVER THE INPUT: true; the input reads as it did. -/
def planMoreSpec : ChangeSpec := { name := "planMore", fn := fun _ => fun
  | [d1, d2, d3, d4, d5] => { results := [.lit (.bool true)], args := [d1, d2, d3, d4, d5] }
  | _ => none }
def planMoreRow : OpenClaim := { program := "ytkkhgcllbbffaaa", sum := "50834ce40fac801ef36df019aee4e16ed49a7d7ee4e7b8dfd2012fedb775a584", func := "raftsman/raftsmanlaw18.PlanMore", spec := "planMore", apart := false }
def PlanMoreSaid : Prop := planMoreRow.holds Try.pinned (OpenSpec.ofChange planMoreSpec)

/-- ITS FALSE NEIGHBOUR: 'it returns false'. Refute it at one input. -/
def planMoreWrong : ChangeSpec := { name := "planMore", fn := fun _ => fun
  | [d1, d2, d3, d4, d5] => { results := [.lit (.bool false)], args := [d1, d2, d3, d4, d5] }
  | _ => none }
def PlanMoreWrongFalsely : Prop := planMoreRow.holds Try.pinned (OpenSpec.ofChange planMoreWrong)

/-- 'raftsmanlaw18.PlanSteps': WHATEVER THE INPUT: true; the input reads as it did. -/
def planStepsSpec : ChangeSpec := { name := "planSteps", fn := fun _ => fun
  | [d1, d2, d3, d4] => { results := [.lit (.bool true)], args := [d1, d2, d3, d4] }
  | _ => none }
def planStepsRow : OpenClaim := { program := "ytkkhgcllbbffaaa", sum := "50834ce40fac801ef36df019aee4e16ed49a7d7ee4e7b8dfd2012fedb775a584", func := "raftsman/raftsmanlaw18.PlanSteps", spec := "planSteps", apart := false }
def PlanStepsSaid : Prop := planStepsRow.holds Try.pinned (OpenSpec.ofChange planStepsSpec)

/-- ITS FALSE NEIGHBOUR: 'it returns false'. Refute it at one input. -/
def planStepsWrong : ChangeSpec := { name := "planSteps", fn := fun _ => fun
  | [d1, d2, d3, d4] => { results := [.lit (.bool false)], args := [d1, d2, d3, d4] }
  | _ => none }
def PlanStepsWrongFalsely : Prop := planStepsRow.holds Try.pinned (OpenSpec.ofChange planStepsWrong)

/-- 'raftsmanlaw18.PlanNone': WHATEVER THE INPUT: true; the input reads as it did. -/
def planNoneSpec : ChangeSpec := { name := "planNone", fn := fun _ => fun
  | [d1, d2, d3, d4, d5] => { results := [.lit (.bool true)], args := [d1, d2, d3, d4, d5] }
  | _ => none }
def planNoneRow : OpenClaim := { program := "ytkkhgcllbbffaaa", sum := "50834ce40fac801ef36df019aee4e16ed49a7d7ee4e7b8dfd2012fedb775a584", func := "raftsman/raftsmanlaw18.PlanNone", spec := "planNone", apart := false }
def PlanNoneSaid : Prop := planNoneRow.holds Try.pinned (OpenSpec.ofChange planNoneSpec)

/-- ITS FALSE NEIGHBOUR: 'it returns false'. Refute it at one input. -/
def planNoneWrong : ChangeSpec := { name := "planNone", fn := fun _ => fun
  | [d1, d2, d3, d4, d5] => { results := [.lit (.bool false)], args := [d1, d2, d3, d4, d5] }
  | _ => none }
def PlanNoneWrongFalsely : Prop := planNoneRow.holds Try.pinned (OpenSpec.ofChange planNoneWrong)

/-- 'raftsmanlaw18.PlanFits': WHATEVER THE INPUT: true; the input reads as it did. -/
def planFitsSpec : ChangeSpec := { name := "planFits", fn := fun _ => fun
  | [d1, d2, d3] => { results := [.lit (.bool true)], args := [d1, d2, d3] }
  | _ => none }
def planFitsRow : OpenClaim := { program := "ytkkhgcllbbffaaa", sum := "50834ce40fac801ef36df019aee4e16ed49a7d7ee4e7b8dfd2012fedb775a584", func := "raftsman/raftsmanlaw18.PlanFits", spec := "planFits", apart := false }
def PlanFitsSaid : Prop := planFitsRow.holds Try.pinned (OpenSpec.ofChange planFitsSpec)

/-- ITS FALSE NEIGHBOUR: 'it returns false'. Refute it at one input. -/
def planFitsWrong : ChangeSpec := { name := "planFits", fn := fun _ => fun
  | [d1, d2, d3] => { results := [.lit (.bool false)], args := [d1, d2, d3] }
  | _ => none }
def PlanFitsWrongFalsely : Prop := planFitsRow.holds Try.pinned (OpenSpec.ofChange planFitsWrong)

/- THE SECOND FORM. 'bulk': how many values and letters a reading holds, each counted each time it is reached (what is shared counts as often as it is met; a slice's spare places count too). A statement '..UptoSaid' is the law's where the arguments, and the package variables that the reading takes, are together of bulk at most 1048576: NARROWER than '..Said'. Prove '..Said' where nothing that the law and all that it calls make is longer than what came in: it says more and counts as full. Else prove '..UptoSaid'. A law counts once. -/
mutual
def uptoBulk {H : Type} : DataW H → Nat
  | .lit (.string bytes) => bytes.length + 1
  | .lit _ => 1
  | .nil => 1
  | .ptr d => uptoBulk d + 1
  | .slice elems spare => uptoBulkAll elems + uptoBulkAll spare + 1
  | .agg parts => uptoBulkAll parts + 1
  | .iface _ d => uptoBulk d + 1
  | .map entries => uptoBulkEntries entries + 1
  | .held _ => 1
def uptoBulkAll {H : Type} : List (DataW H) → Nat
  | [] => 0
  | d :: r => uptoBulk d + uptoBulkAll r
def uptoBulkEntries {H : Type} : List (Lit × DataW H) → Nat
  | [] => 0
  | x :: r => uptoBulkEntry x + uptoBulkEntries r
def uptoBulkEntry {H : Type} : Lit × DataW H → Nat
  | (.string bytes, d) => bytes.length + uptoBulk d + 1
  | (_, d) => uptoBulk d + 1
 end
def uptoSmall : (H : Type) → List (DataW H) → Bool := fun _ ds => decide (uptoBulkAll ds ≤ 1048576)
def OpenSpec.upto (s : _root_.Go.ChangeSpec) : _root_.Go.OpenSpec := { _root_.Go.OpenSpec.ofChange s with cond := some uptoSmall }

/-- 'raftsmanlaw18.PlanTells', WHERE WHAT IT READS IS OF BULK AT MOST 1048576: true; the input reads as it did. -/
def planTellsUptoRow : OpenClaim := { program := "ytkkhgcllbbffaaa", sum := "50834ce40fac801ef36df019aee4e16ed49a7d7ee4e7b8dfd2012fedb775a584", func := "raftsman/raftsmanlaw18.PlanTells", spec := "planTells", apart := false, narrowed := true }
def PlanTellsUptoSaid : Prop := planTellsUptoRow.holds Try.pinned (OpenSpec.upto planTellsSpec)

/-- 'raftsmanlaw18.PlanLeast', WHERE WHAT IT READS IS OF BULK AT MOST 1048576: true; the input reads as it did. -/
def planLeastUptoRow : OpenClaim := { program := "ytkkhgcllbbffaaa", sum := "50834ce40fac801ef36df019aee4e16ed49a7d7ee4e7b8dfd2012fedb775a584", func := "raftsman/raftsmanlaw18.PlanLeast", spec := "planLeast", apart := false, narrowed := true }
def PlanLeastUptoSaid : Prop := planLeastUptoRow.holds Try.pinned (OpenSpec.upto planLeastSpec)

/-- 'raftsmanlaw18.PlanMore', WHERE WHAT IT READS IS OF BULK AT MOST 1048576: true; the input reads as it did. -/
def planMoreUptoRow : OpenClaim := { program := "ytkkhgcllbbffaaa", sum := "50834ce40fac801ef36df019aee4e16ed49a7d7ee4e7b8dfd2012fedb775a584", func := "raftsman/raftsmanlaw18.PlanMore", spec := "planMore", apart := false, narrowed := true }
def PlanMoreUptoSaid : Prop := planMoreUptoRow.holds Try.pinned (OpenSpec.upto planMoreSpec)

/-- 'raftsmanlaw18.PlanSteps', WHERE WHAT IT READS IS OF BULK AT MOST 1048576: true; the input reads as it did. -/
def planStepsUptoRow : OpenClaim := { program := "ytkkhgcllbbffaaa", sum := "50834ce40fac801ef36df019aee4e16ed49a7d7ee4e7b8dfd2012fedb775a584", func := "raftsman/raftsmanlaw18.PlanSteps", spec := "planSteps", apart := false, narrowed := true }
def PlanStepsUptoSaid : Prop := planStepsUptoRow.holds Try.pinned (OpenSpec.upto planStepsSpec)

/-- 'raftsmanlaw18.PlanNone', WHERE WHAT IT READS IS OF BULK AT MOST 1048576: true; the input reads as it did. -/
def planNoneUptoRow : OpenClaim := { program := "ytkkhgcllbbffaaa", sum := "50834ce40fac801ef36df019aee4e16ed49a7d7ee4e7b8dfd2012fedb775a584", func := "raftsman/raftsmanlaw18.PlanNone", spec := "planNone", apart := false, narrowed := true }
def PlanNoneUptoSaid : Prop := planNoneUptoRow.holds Try.pinned (OpenSpec.upto planNoneSpec)

/-- 'raftsmanlaw18.PlanFits', WHERE WHAT IT READS IS OF BULK AT MOST 1048576: true; the input reads as it did. -/
def planFitsUptoRow : OpenClaim := { program := "ytkkhgcllbbffaaa", sum := "50834ce40fac801ef36df019aee4e16ed49a7d7ee4e7b8dfd2012fedb775a584", func := "raftsman/raftsmanlaw18.PlanFits", spec := "planFits", apart := false, narrowed := true }
def PlanFitsUptoSaid : Prop := planFitsUptoRow.holds Try.pinned (OpenSpec.upto planFitsSpec)

end Rows
end Go.Proofs.Ytkkhgcllbbffaaa
