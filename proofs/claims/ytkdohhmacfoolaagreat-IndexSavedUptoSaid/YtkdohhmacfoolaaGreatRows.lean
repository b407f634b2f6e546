/-
  No cell of these rows narrows 'for every input' (looked for: loops, veiled, ifaces, maps, wideKeys, modest, calm, conditions, laid).
  DERIVED. THE GIVEN ROWS OF THIS SEAT. 9 by the template 'for every input the law returns true; each argument reads behind the call as it read before'; 0 by the template 'total and deterministic' (their statements: YtkdohhmacfoolaaGreatTotals.lean).
  GIVEN WITH THE SEED: the statements are not yours to turn. If you find one false, say at which input.
  Laid BY PROGRAM, IN A SANDBOX (cutbox-rows.mjs): the forced cells as the released guide's own fill.sh prints them over the translation 1bb7d39618da783b… (all of the seat's roots in one cut). By AI agents, Wed Nov 11 2026. No macro, syntax, notation, axiom, sorry.
-/
import Derived.Test.YtkdohhmacfoolaaGreatChecked
import GoSem.Claim
import GoSem.ClaimJoined
import GoSem.ClaimMapViews
import Derived.JoinedTies
import Derived.KernelRfl
namespace Go.Proofs.YtkdohhmacfoolaaGreat
/- THE CELL 'sum', in the pinned program and in every row, IS THE sha256 OF THE DUMP (.gsa) THAT YtkdohhmacfoolaaGreatProg.lean LOADS. Nothing in Lean hashes anything: it is a label: what it is worth is what the hold of that sum in a sandbox is worth. -/
noncomputable def Tryz.pinned : Pinned := { name := "ytkdohhmacfoolaagreat", sum := "1bb7d39618da783b430184bd7db1c3487a5ce93597fef90e78e097c980d37c91", checked := Tryz.checked }
namespace Rows
def none {H : Type} : Left H := { results := [], args := [] }

/-- 'raftsmanlaw21.IndexTells': WHATEVER THE INPUT: true; the input reads as it did. -/
def indexTellsSpec : ChangeSpec := { name := "indexTells", fn := fun _ => fun
  | [d1, d2, d3] => { results := [.lit (.bool true)], args := [d1, d2, d3] }
  | _ => none }
def indexTellsRow : OpenClaim := { program := "ytkdohhmacfoolaagreat", sum := "1bb7d39618da783b430184bd7db1c3487a5ce93597fef90e78e097c980d37c91", func := "raftsman/raftsmanlaw21.IndexTells", spec := "indexTells", unfollowed := true, recurses := true, named := ["math/bits.divideError", "math/bits.overflowError"], apart := false }
def IndexTellsSaid : Prop := indexTellsRow.holds Tryz.pinned (OpenSpec.ofChange indexTellsSpec)

/-- ITS FALSE NEIGHBOUR: 'it returns false'. Refute it at one input. -/
def indexTellsWrong : ChangeSpec := { name := "indexTells", fn := fun _ => fun
  | [d1, d2, d3] => { results := [.lit (.bool false)], args := [d1, d2, d3] }
  | _ => none }
def IndexTellsWrongFalsely : Prop := indexTellsRow.holds Tryz.pinned (OpenSpec.ofChange indexTellsWrong)

/-- 'raftsmanlaw21.IndexNew': WHATEVER THE INPUT: true; the input reads as it did. -/
def indexNewSpec : ChangeSpec := { name := "indexNew", fn := fun _ => fun
  | [d1, d2, d3] => { results := [.lit (.bool true)], args := [d1, d2, d3] }
  | _ => none }
def indexNewRow : OpenClaim := { program := "ytkdohhmacfoolaagreat", sum := "1bb7d39618da783b430184bd7db1c3487a5ce93597fef90e78e097c980d37c91", func := "raftsman/raftsmanlaw21.IndexNew", spec := "indexNew", unfollowed := true, recurses := true, named := ["math/bits.divideError", "math/bits.overflowError"], apart := false }
def IndexNewSaid : Prop := indexNewRow.holds Tryz.pinned (OpenSpec.ofChange indexNewSpec)

/-- ITS FALSE NEIGHBOUR: 'it returns false'. Refute it at one input. -/
def indexNewWrong : ChangeSpec := { name := "indexNew", fn := fun _ => fun
  | [d1, d2, d3] => { results := [.lit (.bool false)], args := [d1, d2, d3] }
  | _ => none }
def IndexNewWrongFalsely : Prop := indexNewRow.holds Tryz.pinned (OpenSpec.ofChange indexNewWrong)

/-- 'raftsmanlaw21.IndexOne': WHATEVER THE INPUT: true; the input reads as it did. -/
def indexOneSpec : ChangeSpec := { name := "indexOne", fn := fun _ => fun
  | [d1, d2, d3] => { results := [.lit (.bool true)], args := [d1, d2, d3] }
  | _ => none }
def indexOneRow : OpenClaim := { program := "ytkdohhmacfoolaagreat", sum := "1bb7d39618da783b430184bd7db1c3487a5ce93597fef90e78e097c980d37c91", func := "raftsman/raftsmanlaw21.IndexOne", spec := "indexOne", unfollowed := true, recurses := true, named := ["math/bits.divideError", "math/bits.overflowError"], apart := false }
def IndexOneSaid : Prop := indexOneRow.holds Tryz.pinned (OpenSpec.ofChange indexOneSpec)

/-- ITS FALSE NEIGHBOUR: 'it returns false'. Refute it at one input. -/
def indexOneWrong : ChangeSpec := { name := "indexOne", fn := fun _ => fun
  | [d1, d2, d3] => { results := [.lit (.bool false)], args := [d1, d2, d3] }
  | _ => none }
def IndexOneWrongFalsely : Prop := indexOneRow.holds Tryz.pinned (OpenSpec.ofChange indexOneWrong)

/-- 'raftsmanlaw21.IndexSaved': WHATEVER THE INPUT: true; the input reads as it did. -/
def indexSavedSpec : ChangeSpec := { name := "indexSaved", fn := fun _ => fun
  | [d1, d2, d3, d4, d5] => { results := [.lit (.bool true)], args := [d1, d2, d3, d4, d5] }
  | _ => none }
def indexSavedRow : OpenClaim := { program := "ytkdohhmacfoolaagreat", sum := "1bb7d39618da783b430184bd7db1c3487a5ce93597fef90e78e097c980d37c91", func := "raftsman/raftsmanlaw21.IndexSaved", spec := "indexSaved", unfollowed := true, recurses := true, named := ["math/bits.divideError", "math/bits.overflowError"], apart := false }
def IndexSavedSaid : Prop := indexSavedRow.holds Tryz.pinned (OpenSpec.ofChange indexSavedSpec)

/-- ITS FALSE NEIGHBOUR: 'it returns false'. Refute it at one input. -/
def indexSavedWrong : ChangeSpec := { name := "indexSaved", fn := fun _ => fun
  | [d1, d2, d3, d4, d5] => { results := [.lit (.bool false)], args := [d1, d2, d3, d4, d5] }
  | _ => none }
def IndexSavedWrongFalsely : Prop := indexSavedRow.holds Tryz.pinned (OpenSpec.ofChange indexSavedWrong)

/-- 'raftsmanlaw21.IndexLeaves': WHATEVER THE INPUT: true; the input reads as it did. -/
def indexLeavesSpec : ChangeSpec := { name := "indexLeaves", fn := fun _ => fun
  | [d1, d2, d3] => { results := [.lit (.bool true)], args := [d1, d2, d3] }
  | _ => none }
def indexLeavesRow : OpenClaim := { program := "ytkdohhmacfoolaagreat", sum := "1bb7d39618da783b430184bd7db1c3487a5ce93597fef90e78e097c980d37c91", func := "raftsman/raftsmanlaw21.IndexLeaves", spec := "indexLeaves", unfollowed := true, recurses := true, named := ["math/bits.divideError", "math/bits.overflowError"], apart := false }
def IndexLeavesSaid : Prop := indexLeavesRow.holds Tryz.pinned (OpenSpec.ofChange indexLeavesSpec)

/-- ITS FALSE NEIGHBOUR: 'it returns false'. Refute it at one input. -/
def indexLeavesWrong : ChangeSpec := { name := "indexLeaves", fn := fun _ => fun
  | [d1, d2, d3] => { results := [.lit (.bool false)], args := [d1, d2, d3] }
  | _ => none }
def IndexLeavesWrongFalsely : Prop := indexLeavesRow.holds Tryz.pinned (OpenSpec.ofChange indexLeavesWrong)

/-- 'raftsmanlaw21.IndexNear': WHATEVER THE INPUT: true; the input reads as it did. -/
def indexNearSpec : ChangeSpec := { name := "indexNear", fn := fun _ => fun
  | [d1, d2, d3] => { results := [.lit (.bool true)], args := [d1, d2, d3] }
  | _ => none }
def indexNearRow : OpenClaim := { program := "ytkdohhmacfoolaagreat", sum := "1bb7d39618da783b430184bd7db1c3487a5ce93597fef90e78e097c980d37c91", func := "raftsman/raftsmanlaw21.IndexNear", spec := "indexNear", unfollowed := true, recurses := true, named := ["math/bits.divideError", "math/bits.overflowError"], apart := false }
def IndexNearSaid : Prop := indexNearRow.holds Tryz.pinned (OpenSpec.ofChange indexNearSpec)

/-- ITS FALSE NEIGHBOUR: 'it returns false'. Refute it at one input. -/
def indexNearWrong : ChangeSpec := { name := "indexNear", fn := fun _ => fun
  | [d1, d2, d3] => { results := [.lit (.bool false)], args := [d1, d2, d3] }
  | _ => none }
def IndexNearWrongFalsely : Prop := indexNearRow.holds Tryz.pinned (OpenSpec.ofChange indexNearWrong)

/-- 'raftsmanlaw21.IndexClasses': WHATEVER THE INPUT: true; the input reads as it did. -/
def indexClassesSpec : ChangeSpec := { name := "indexClasses", fn := fun _ => fun
  | [d1, d2, d3] => { results := [.lit (.bool true)], args := [d1, d2, d3] }
  | _ => none }
def indexClassesRow : OpenClaim := { program := "ytkdohhmacfoolaagreat", sum := "1bb7d39618da783b430184bd7db1c3487a5ce93597fef90e78e097c980d37c91", func := "raftsman/raftsmanlaw21.IndexClasses", spec := "indexClasses", unfollowed := true, recurses := true, named := ["math/bits.divideError", "math/bits.overflowError"], apart := false }
def IndexClassesSaid : Prop := indexClassesRow.holds Tryz.pinned (OpenSpec.ofChange indexClassesSpec)

/-- ITS FALSE NEIGHBOUR: 'it returns false'. Refute it at one input. -/
def indexClassesWrong : ChangeSpec := { name := "indexClasses", fn := fun _ => fun
  | [d1, d2, d3] => { results := [.lit (.bool false)], args := [d1, d2, d3] }
  | _ => none }
def IndexClassesWrongFalsely : Prop := indexClassesRow.holds Tryz.pinned (OpenSpec.ofChange indexClassesWrong)

/-- 'raftsmanlaw21.IndexAudit': WHATEVER THE INPUT: true; the input reads as it did. -/
def indexAuditSpec : ChangeSpec := { name := "indexAudit", fn := fun _ => fun
  | [d1, d2, d3] => { results := [.lit (.bool true)], args := [d1, d2, d3] }
  | _ => none }
def indexAuditRow : OpenClaim := { program := "ytkdohhmacfoolaagreat", sum := "1bb7d39618da783b430184bd7db1c3487a5ce93597fef90e78e097c980d37c91", func := "raftsman/raftsmanlaw21.IndexAudit", spec := "indexAudit", unfollowed := true, recurses := true, named := ["math/bits.divideError", "math/bits.overflowError"], apart := false }
def IndexAuditSaid : Prop := indexAuditRow.holds Tryz.pinned (OpenSpec.ofChange indexAuditSpec)

/-- ITS FALSE NEIGHBOUR: 'it returns false'. Refute it at one input. -/
def indexAuditWrong : ChangeSpec := { name := "indexAudit", fn := fun _ => fun
  | [d1, d2, d3] => { results := [.lit (.bool false)], args := [d1, d2, d3] }
  | _ => none }
def IndexAuditWrongFalsely : Prop := indexAuditRow.holds Tryz.pinned (OpenSpec.ofChange indexAuditWrong)

/-- 'raftsmanlaw21.IndexMust': WHATEVER THE INPUT: true; the input reads as it did. -/
def indexMustSpec : ChangeSpec := { name := "indexMust", fn := fun _ => fun
  | [d1, d2, d3, d4] => { results := [.lit (.bool true)], args := [d1, d2, d3, d4] }
  | _ => none }
def indexMustRow : OpenClaim := { program := "ytkdohhmacfoolaagreat", sum := "1bb7d39618da783b430184bd7db1c3487a5ce93597fef90e78e097c980d37c91", func := "raftsman/raftsmanlaw21.IndexMust", spec := "indexMust", unfollowed := true, recurses := true, named := ["math/bits.divideError", "math/bits.overflowError"], apart := false }
def IndexMustSaid : Prop := indexMustRow.holds Tryz.pinned (OpenSpec.ofChange indexMustSpec)

/-- ITS FALSE NEIGHBOUR: 'it returns false'. Refute it at one input. -/
def indexMustWrong : ChangeSpec := { name := "indexMust", fn := fun _ => fun
  | [d1, d2, d3, d4] => { results := [.lit (.bool false)], args := [d1, d2, d3, d4] }
  | _ => none }
def IndexMustWrongFalsely : Prop := indexMustRow.holds Tryz.pinned (OpenSpec.ofChange indexMustWrong)

/- THE SECOND FORM. 'bulk': how many values and letters a reading holds, each counted each time it is reached (what is shared counts as often as it is met; a slice's spare places count too). A statement '..UptoSaid' is the law's where the arguments, and the package variables that the reading takes, are together of bulk at most 1048576: NARROWER than '..Said'. Prove '..Said' where nothing that the law and all that it calls make is longer than what came in: it says more and counts as full. Else prove '..UptoSaid'. A law counts once. -/
mutual
def uptoBulk {H : Type} : DataW H → Nat
  | .lit (.string bytes) => bytes.length + 1
  | .lit _ => 1
  | .nil => 1
  | .ptr d => uptoBulk d + 1
  | .slice elems spare => uptoBulkAll elems + uptoBulkAll spare + 1
  | .agg parts => uptoBulkAll parts + 1
  | .iface _ d => uptoBulk d + 1
  | .map entries => uptoBulkEntries entries + 1
  | .held _ => 1
def uptoBulkAll {H : Type} : List (DataW H) → Nat
  | [] => 0
  | d :: r => uptoBulk d + uptoBulkAll r
def uptoBulkEntries {H : Type} : List (Lit × DataW H) → Nat
  | [] => 0
  | x :: r => uptoBulkEntry x + uptoBulkEntries r
def uptoBulkEntry {H : Type} : Lit × DataW H → Nat
  | (.string bytes, d) => bytes.length + uptoBulk d + 1
  | (_, d) => uptoBulk d + 1
 end
def uptoSmall : (H : Type) → List (DataW H) → Bool := fun _ ds => decide (uptoBulkAll ds ≤ 1048576)
def OpenSpec.upto (s : _root_.Go.ChangeSpec) : _root_.Go.OpenSpec := { _root_.Go.OpenSpec.ofChange s with cond := some uptoSmall }

/-- 'raftsmanlaw21.IndexTells', WHERE WHAT IT READS IS OF BULK AT MOST 1048576: true; the input reads as it did. -/
def indexTellsUptoRow : OpenClaim := { program := "ytkdohhmacfoolaagreat", sum := "1bb7d39618da783b430184bd7db1c3487a5ce93597fef90e78e097c980d37c91", func := "raftsman/raftsmanlaw21.IndexTells", spec := "indexTells", unfollowed := true, recurses := true, named := ["math/bits.divideError", "math/bits.overflowError"], apart := false, narrowed := true }
def IndexTellsUptoSaid : Prop := indexTellsUptoRow.holds Tryz.pinned (OpenSpec.upto indexTellsSpec)

/-- 'raftsmanlaw21.IndexNew', WHERE WHAT IT READS IS OF BULK AT MOST 1048576: true; the input reads as it did. -/
def indexNewUptoRow : OpenClaim := { program := "ytkdohhmacfoolaagreat", sum := "1bb7d39618da783b430184bd7db1c3487a5ce93597fef90e78e097c980d37c91", func := "raftsman/raftsmanlaw21.IndexNew", spec := "indexNew", unfollowed := true, recurses := true, named := ["math/bits.divideError", "math/bits.overflowError"], apart := false, narrowed := true }
def IndexNewUptoSaid : Prop := indexNewUptoRow.holds Tryz.pinned (OpenSpec.upto indexNewSpec)

/-- 'raftsmanlaw21.IndexOne', WHERE WHAT IT READS IS OF BULK AT MOST 1048576: true; the input reads as it did. -/
def indexOneUptoRow : OpenClaim := { program := "ytkdohhmacfoolaagreat", sum := "1bb7d39618da783b430184bd7db1c3487a5ce93597fef90e78e097c980d37c91", func := "raftsman/raftsmanlaw21.IndexOne", spec := "indexOne", unfollowed := true, recurses := true, named := ["math/bits.divideError", "math/bits.overflowError"], apart := false, narrowed := true }
def IndexOneUptoSaid : Prop := indexOneUptoRow.holds Tryz.pinned (OpenSpec.upto indexOneSpec)

/-- 'raftsmanlaw21.IndexSaved', WHERE WHAT IT READS IS OF BULK AT MOST 1048576: true; the input reads as it did. -/
def indexSavedUptoRow : OpenClaim := { program := "ytkdohhmacfoolaagreat", sum := "1bb7d39618da783b430184bd7db1c3487a5ce93597fef90e78e097c980d37c91", func := "raftsman/raftsmanlaw21.IndexSaved", spec := "indexSaved", unfollowed := true, recurses := true, named := ["math/bits.divideError", "math/bits.overflowError"], apart := false, narrowed := true }
def IndexSavedUptoSaid : Prop := indexSavedUptoRow.holds Tryz.pinned (OpenSpec.upto indexSavedSpec)

/-- 'raftsmanlaw21.IndexLeaves', WHERE WHAT IT READS IS OF BULK AT MOST 1048576: true; the input reads as it did. -/
def indexLeavesUptoRow : OpenClaim := { program := "ytkdohhmacfoolaagreat", sum := "1bb7d39618da783b430184bd7db1c3487a5ce93597fef90e78e097c980d37c91", func := "raftsman/raftsmanlaw21.IndexLeaves", spec := "indexLeaves", unfollowed := true, recurses := true, named := ["math/bits.divideError", "math/bits.overflowError"], apart := false, narrowed := true }
def IndexLeavesUptoSaid : Prop := indexLeavesUptoRow.holds Tryz.pinned (OpenSpec.upto indexLeavesSpec)

/-- 'raftsmanlaw21.IndexNear', WHERE WHAT IT READS IS OF BULK AT MOST 1048576: true; the input reads as it did. -/
def indexNearUptoRow : OpenClaim := { program := "ytkdohhmacfoolaagreat", sum := "1bb7d39618da783b430184bd7db1c3487a5ce93597fef90e78e097c980d37c91", func := "raftsman/raftsmanlaw21.IndexNear", spec := "indexNear", unfollowed := true, recurses := true, named := ["math/bits.divideError", "math/bits.overflowError"], apart := false, narrowed := true }
def IndexNearUptoSaid : Prop := indexNearUptoRow.holds Tryz.pinned (OpenSpec.upto indexNearSpec)

/-- 'raftsmanlaw21.IndexClasses', WHERE WHAT IT READS IS OF BULK AT MOST 1048576: true; the input reads as it did. -/
def indexClassesUptoRow : OpenClaim := { program := "ytkdohhmacfoolaagreat", sum := "1bb7d39618da783b430184bd7db1c3487a5ce93597fef90e78e097c980d37c91", func := "raftsman/raftsmanlaw21.IndexClasses", spec := "indexClasses", unfollowed := true, recurses := true, named := ["math/bits.divideError", "math/bits.overflowError"], apart := false, narrowed := true }
def IndexClassesUptoSaid : Prop := indexClassesUptoRow.holds Tryz.pinned (OpenSpec.upto indexClassesSpec)

/-- 'raftsmanlaw21.IndexAudit', WHERE WHAT IT READS IS OF BULK AT MOST 1048576: true; the input reads as it did. -/
def indexAuditUptoRow : OpenClaim := { program := "ytkdohhmacfoolaagreat", sum := "1bb7d39618da783b430184bd7db1c3487a5ce93597fef90e78e097c980d37c91", func := "raftsman/raftsmanlaw21.IndexAudit", spec := "indexAudit", unfollowed := true, recurses := true, named := ["math/bits.divideError", "math/bits.overflowError"], apart := false, narrowed := true }
def IndexAuditUptoSaid : Prop := indexAuditUptoRow.holds Tryz.pinned (OpenSpec.upto indexAuditSpec)

/-- 'raftsmanlaw21.IndexMust', WHERE WHAT IT READS IS OF BULK AT MOST 1048576: true; the input reads as it did. -/
def indexMustUptoRow : OpenClaim := { program := "ytkdohhmacfoolaagreat", sum := "1bb7d39618da783b430184bd7db1c3487a5ce93597fef90e78e097c980d37c91", func := "raftsman/raftsmanlaw21.IndexMust", spec := "indexMust", unfollowed := true, recurses := true, named := ["math/bits.divideError", "math/bits.overflowError"], apart := false, narrowed := true }
def IndexMustUptoSaid : Prop := indexMustUptoRow.holds Tryz.pinned (OpenSpec.upto indexMustSpec)

end Rows
end Go.Proofs.YtkdohhmacfoolaaGreat
