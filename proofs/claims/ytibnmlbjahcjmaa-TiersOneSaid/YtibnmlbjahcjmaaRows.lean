/-
  No cell of these rows narrows 'for every input' (looked for: loops, veiled, ifaces, maps, wideKeys, modest, calm, conditions, laid).
  DERIVED. THE GIVEN ROWS OF THIS SEAT. 22 by the template 'for every input the law returns true; each argument reads behind the call as it read before'; 0 by the template 'total and deterministic' (their statements: YtibnmlbjahcjmaaTotals.lean).
  GIVEN WITH THE SEED: the statements are not yours to turn. If you find one false, say at which input.
  Laid BY PROGRAM, IN A SANDBOX (cutbox-rows.mjs): the forced cells as the released guide's own fill.sh prints them over the translation d6c13457bd632693… (all of the seat's roots in one cut). By AI agents, Wed Nov 11 2026. No macro, syntax, notation, axiom, sorry.
-/
import Derived.Test.YtibnmlbjahcjmaaChecked
import GoSem.Claim
import GoSem.ClaimJoined
import GoSem.ClaimMapViews
import Derived.JoinedTies
import Derived.KernelRfl
namespace Go.Proofs.Ytibnmlbjahcjmaa
/- THE CELL 'sum', in the pinned program and in every row, IS THE sha256 OF THE DUMP (.gsa) THAT YtibnmlbjahcjmaaProg.lean LOADS. Nothing in Lean hashes anything: it is a label: what it is worth is what the hold of that sum in a sandbox is worth. -/
noncomputable def Try.pinned : Pinned := { name := "ytibnmlbjahcjmaa", sum := "d6c13457bd632693fe32742914eca2c66f73237a582e57e75c9fa633aae5c6db", checked := Try.checked }
namespace Rows
def none {H : Type} : Left H := { results := [], args := [] }

/-- 'raftsmanlaw20.AuditTells': WHATEVER THE INPUT: true; the input reads as it did. -/
def auditTellsSpec : ChangeSpec := { name := "auditTells", fn := fun _ => fun
  | [d] => { results := [.lit (.bool true)], args := [d] }
  | _ => none }
def auditTellsRow : OpenClaim := { program := "ytibnmlbjahcjmaa", sum := "d6c13457bd632693fe32742914eca2c66f73237a582e57e75c9fa633aae5c6db", func := "raftsman/raftsmanlaw20.AuditTells", spec := "auditTells", apart := false }
def AuditTellsSaid : Prop := auditTellsRow.holds Try.pinned (OpenSpec.ofChange auditTellsSpec)

/-- ITS FALSE NEIGHBOUR: 'it returns false'. Refute it at one input. -/
def auditTellsWrong : ChangeSpec := { name := "auditTells", fn := fun _ => fun
  | [d] => { results := [.lit (.bool false)], args := [d] }
  | _ => none }
def AuditTellsWrongFalsely : Prop := auditTellsRow.holds Try.pinned (OpenSpec.ofChange auditTellsWrong)

/-- 'raftsmanlaw20.AuditBare': WHATEVER THE INPUT: true; the input reads as it did. -/
def auditBareSpec : ChangeSpec := { name := "auditBare", fn := fun _ => fun
  | [d] => { results := [.lit (.bool true)], args := [d] }
  | _ => none }
def auditBareRow : OpenClaim := { program := "ytibnmlbjahcjmaa", sum := "d6c13457bd632693fe32742914eca2c66f73237a582e57e75c9fa633aae5c6db", func := "raftsman/raftsmanlaw20.AuditBare", spec := "auditBare", apart := false }
def AuditBareSaid : Prop := auditBareRow.holds Try.pinned (OpenSpec.ofChange auditBareSpec)

/-- ITS FALSE NEIGHBOUR: 'it returns false'. Refute it at one input. -/
def auditBareWrong : ChangeSpec := { name := "auditBare", fn := fun _ => fun
  | [d] => { results := [.lit (.bool false)], args := [d] }
  | _ => none }
def AuditBareWrongFalsely : Prop := auditBareRow.holds Try.pinned (OpenSpec.ofChange auditBareWrong)

/-- 'raftsmanlaw20.AuditThree': WHATEVER THE INPUT: true; the input reads as it did. -/
def auditThreeSpec : ChangeSpec := { name := "auditThree", fn := fun _ => fun
  | [d] => { results := [.lit (.bool true)], args := [d] }
  | _ => none }
def auditThreeRow : OpenClaim := { program := "ytibnmlbjahcjmaa", sum := "d6c13457bd632693fe32742914eca2c66f73237a582e57e75c9fa633aae5c6db", func := "raftsman/raftsmanlaw20.AuditThree", spec := "auditThree", apart := false }
def AuditThreeSaid : Prop := auditThreeRow.holds Try.pinned (OpenSpec.ofChange auditThreeSpec)

/-- ITS FALSE NEIGHBOUR: 'it returns false'. Refute it at one input. -/
def auditThreeWrong : ChangeSpec := { name := "auditThree", fn := fun _ => fun
  | [d] => { results := [.lit (.bool false)], args := [d] }
  | _ => none }
def AuditThreeWrongFalsely : Prop := auditThreeRow.holds Try.pinned (OpenSpec.ofChange auditThreeWrong)

/-- 'raftsmanlaw14.SearchTells': WHATEVER THE INPUT: true; the input reads as it did. -/
def searchTellsSpec : ChangeSpec := { name := "searchTells", fn := fun _ => fun
  | [d1, d2, d3] => { results := [.lit (.bool true)], args := [d1, d2, d3] }
  | _ => none }
def searchTellsRow : OpenClaim := { program := "ytibnmlbjahcjmaa", sum := "d6c13457bd632693fe32742914eca2c66f73237a582e57e75c9fa633aae5c6db", func := "raftsman/raftsmanlaw14.SearchTells", spec := "searchTells", named := ["math/bits.divideError", "math/bits.overflowError"], apart := false }
def SearchTellsSaid : Prop := searchTellsRow.holds Try.pinned (OpenSpec.ofChange searchTellsSpec)

/-- ITS FALSE NEIGHBOUR: 'it returns false'. Refute it at one input. -/
def searchTellsWrong : ChangeSpec := { name := "searchTells", fn := fun _ => fun
  | [d1, d2, d3] => { results := [.lit (.bool false)], args := [d1, d2, d3] }
  | _ => none }
def SearchTellsWrongFalsely : Prop := searchTellsRow.holds Try.pinned (OpenSpec.ofChange searchTellsWrong)

/-- 'raftsmanlaw14.SearchFinds': WHATEVER THE INPUT: true; the input reads as it did. -/
def searchFindsSpec : ChangeSpec := { name := "searchFinds", fn := fun _ => fun
  | [d1, d2, d3] => { results := [.lit (.bool true)], args := [d1, d2, d3] }
  | _ => none }
def searchFindsRow : OpenClaim := { program := "ytibnmlbjahcjmaa", sum := "d6c13457bd632693fe32742914eca2c66f73237a582e57e75c9fa633aae5c6db", func := "raftsman/raftsmanlaw14.SearchFinds", spec := "searchFinds", named := ["math/bits.divideError", "math/bits.overflowError"], apart := false }
def SearchFindsSaid : Prop := searchFindsRow.holds Try.pinned (OpenSpec.ofChange searchFindsSpec)

/-- ITS FALSE NEIGHBOUR: 'it returns false'. Refute it at one input. -/
def searchFindsWrong : ChangeSpec := { name := "searchFinds", fn := fun _ => fun
  | [d1, d2, d3] => { results := [.lit (.bool false)], args := [d1, d2, d3] }
  | _ => none }
def SearchFindsWrongFalsely : Prop := searchFindsRow.holds Try.pinned (OpenSpec.ofChange searchFindsWrong)

/-- 'raftsmanlaw14.SearchTrees': WHATEVER THE INPUT: true; the input reads as it did. -/
def searchTreesSpec : ChangeSpec := { name := "searchTrees", fn := fun _ => fun
  | [d1, d2, d3, d4] => { results := [.lit (.bool true)], args := [d1, d2, d3, d4] }
  | _ => none }
def searchTreesRow : OpenClaim := { program := "ytibnmlbjahcjmaa", sum := "d6c13457bd632693fe32742914eca2c66f73237a582e57e75c9fa633aae5c6db", func := "raftsman/raftsmanlaw14.SearchTrees", spec := "searchTrees", named := ["math/bits.divideError", "math/bits.overflowError"], apart := false }
def SearchTreesSaid : Prop := searchTreesRow.holds Try.pinned (OpenSpec.ofChange searchTreesSpec)

/-- ITS FALSE NEIGHBOUR: 'it returns false'. Refute it at one input. -/
def searchTreesWrong : ChangeSpec := { name := "searchTrees", fn := fun _ => fun
  | [d1, d2, d3, d4] => { results := [.lit (.bool false)], args := [d1, d2, d3, d4] }
  | _ => none }
def SearchTreesWrongFalsely : Prop := searchTreesRow.holds Try.pinned (OpenSpec.ofChange searchTreesWrong)

/-- 'raftsmanlaw14.SearchWords': WHATEVER THE INPUT: true; the input reads as it did. -/
def searchWordsSpec : ChangeSpec := { name := "searchWords", fn := fun _ => fun
  | [d1, d2] => { results := [.lit (.bool true)], args := [d1, d2] }
  | _ => none }
def searchWordsRow : OpenClaim := { program := "ytibnmlbjahcjmaa", sum := "d6c13457bd632693fe32742914eca2c66f73237a582e57e75c9fa633aae5c6db", func := "raftsman/raftsmanlaw14.SearchWords", spec := "searchWords", named := ["math/bits.divideError", "math/bits.overflowError"], apart := false }
def SearchWordsSaid : Prop := searchWordsRow.holds Try.pinned (OpenSpec.ofChange searchWordsSpec)

/-- ITS FALSE NEIGHBOUR: 'it returns false'. Refute it at one input. -/
def searchWordsWrong : ChangeSpec := { name := "searchWords", fn := fun _ => fun
  | [d1, d2] => { results := [.lit (.bool false)], args := [d1, d2] }
  | _ => none }
def SearchWordsWrongFalsely : Prop := searchWordsRow.holds Try.pinned (OpenSpec.ofChange searchWordsWrong)

/-- 'raftsmanlaw14.SearchLevel': WHATEVER THE INPUT: true; the input reads as it did. -/
def searchLevelSpec : ChangeSpec := { name := "searchLevel", fn := fun _ => fun
  | [d1, d2, d3] => { results := [.lit (.bool true)], args := [d1, d2, d3] }
  | _ => none }
def searchLevelRow : OpenClaim := { program := "ytibnmlbjahcjmaa", sum := "d6c13457bd632693fe32742914eca2c66f73237a582e57e75c9fa633aae5c6db", func := "raftsman/raftsmanlaw14.SearchLevel", spec := "searchLevel", named := ["math/bits.divideError", "math/bits.overflowError"], apart := false }
def SearchLevelSaid : Prop := searchLevelRow.holds Try.pinned (OpenSpec.ofChange searchLevelSpec)

/-- ITS FALSE NEIGHBOUR: 'it returns false'. Refute it at one input. -/
def searchLevelWrong : ChangeSpec := { name := "searchLevel", fn := fun _ => fun
  | [d1, d2, d3] => { results := [.lit (.bool false)], args := [d1, d2, d3] }
  | _ => none }
def SearchLevelWrongFalsely : Prop := searchLevelRow.holds Try.pinned (OpenSpec.ofChange searchLevelWrong)

/-- 'raftsmanlaw16.RulesTell': WHATEVER THE INPUT: true; the input reads as it did. -/
def rulesTellSpec : ChangeSpec := { name := "rulesTell", fn := fun _ => fun
  | [d] => { results := [.lit (.bool true)], args := [d] }
  | _ => none }
def rulesTellRow : OpenClaim := { program := "ytibnmlbjahcjmaa", sum := "d6c13457bd632693fe32742914eca2c66f73237a582e57e75c9fa633aae5c6db", func := "raftsman/raftsmanlaw16.RulesTell", spec := "rulesTell", named := ["math/bits.divideError", "math/bits.overflowError"], apart := false }
def RulesTellSaid : Prop := rulesTellRow.holds Try.pinned (OpenSpec.ofChange rulesTellSpec)

/-- ITS FALSE NEIGHBOUR: 'it returns false'. Refute it at one input. -/
def rulesTellWrong : ChangeSpec := { name := "rulesTell", fn := fun _ => fun
  | [d] => { results := [.lit (.bool false)], args := [d] }
  | _ => none }
def RulesTellWrongFalsely : Prop := rulesTellRow.holds Try.pinned (OpenSpec.ofChange rulesTellWrong)

/-- 'raftsmanlaw16.RulesStay': WHATEVER THE INPUT: true; the input reads as it did. -/
def rulesStaySpec : ChangeSpec := { name := "rulesStay", fn := fun _ => fun
  | [d1, d2, d3] => { results := [.lit (.bool true)], args := [d1, d2, d3] }
  | _ => none }
def rulesStayRow : OpenClaim := { program := "ytibnmlbjahcjmaa", sum := "d6c13457bd632693fe32742914eca2c66f73237a582e57e75c9fa633aae5c6db", func := "raftsman/raftsmanlaw16.RulesStay", spec := "rulesStay", named := ["math/bits.divideError", "math/bits.overflowError"], apart := false }
def RulesStaySaid : Prop := rulesStayRow.holds Try.pinned (OpenSpec.ofChange rulesStaySpec)

/-- ITS FALSE NEIGHBOUR: 'it returns false'. Refute it at one input. -/
def rulesStayWrong : ChangeSpec := { name := "rulesStay", fn := fun _ => fun
  | [d1, d2, d3] => { results := [.lit (.bool false)], args := [d1, d2, d3] }
  | _ => none }
def RulesStayWrongFalsely : Prop := rulesStayRow.holds Try.pinned (OpenSpec.ofChange rulesStayWrong)

/-- 'raftsmanlaw16.RulesMended': WHATEVER THE INPUT: true; the input reads as it did. -/
def rulesMendedSpec : ChangeSpec := { name := "rulesMended", fn := fun _ => fun
  | [d] => { results := [.lit (.bool true)], args := [d] }
  | _ => none }
def rulesMendedRow : OpenClaim := { program := "ytibnmlbjahcjmaa", sum := "d6c13457bd632693fe32742914eca2c66f73237a582e57e75c9fa633aae5c6db", func := "raftsman/raftsmanlaw16.RulesMended", spec := "rulesMended", named := ["math/bits.divideError", "math/bits.overflowError"], apart := false }
def RulesMendedSaid : Prop := rulesMendedRow.holds Try.pinned (OpenSpec.ofChange rulesMendedSpec)

/-- ITS FALSE NEIGHBOUR: 'it returns false'. Refute it at one input. -/
def rulesMendedWrong : ChangeSpec := { name := "rulesMended", fn := fun _ => fun
  | [d] => { results := [.lit (.bool false)], args := [d] }
  | _ => none }
def RulesMendedWrongFalsely : Prop := rulesMendedRow.holds Try.pinned (OpenSpec.ofChange rulesMendedWrong)

/-- 'raftsmanlaw20.AuditMends': WHATEVER THE INPUT: true; the input reads as it did. -/
def auditMendsSpec : ChangeSpec := { name := "auditMends", fn := fun _ => fun
  | [d1, d2, d3] => { results := [.lit (.bool true)], args := [d1, d2, d3] }
  | _ => none }
def auditMendsRow : OpenClaim := { program := "ytibnmlbjahcjmaa", sum := "d6c13457bd632693fe32742914eca2c66f73237a582e57e75c9fa633aae5c6db", func := "raftsman/raftsmanlaw20.AuditMends", spec := "auditMends", named := ["math/bits.divideError", "math/bits.overflowError"], apart := false }
def AuditMendsSaid : Prop := auditMendsRow.holds Try.pinned (OpenSpec.ofChange auditMendsSpec)

/-- ITS FALSE NEIGHBOUR: 'it returns false'. Refute it at one input. -/
def auditMendsWrong : ChangeSpec := { name := "auditMends", fn := fun _ => fun
  | [d1, d2, d3] => { results := [.lit (.bool false)], args := [d1, d2, d3] }
  | _ => none }
def AuditMendsWrongFalsely : Prop := auditMendsRow.holds Try.pinned (OpenSpec.ofChange auditMendsWrong)

/-- 'raftsmanlaw16.RulesCount': WHATEVER THE INPUT: true; the input reads as it did. -/
def rulesCountSpec : ChangeSpec := { name := "rulesCount", fn := fun _ => fun
  | [d] => { results := [.lit (.bool true)], args := [d] }
  | _ => none }
def rulesCountRow : OpenClaim := { program := "ytibnmlbjahcjmaa", sum := "d6c13457bd632693fe32742914eca2c66f73237a582e57e75c9fa633aae5c6db", func := "raftsman/raftsmanlaw16.RulesCount", spec := "rulesCount", named := ["math/bits.divideError", "math/bits.overflowError"], apart := false }
def RulesCountSaid : Prop := rulesCountRow.holds Try.pinned (OpenSpec.ofChange rulesCountSpec)

/-- ITS FALSE NEIGHBOUR: 'it returns false'. Refute it at one input. -/
def rulesCountWrong : ChangeSpec := { name := "rulesCount", fn := fun _ => fun
  | [d] => { results := [.lit (.bool false)], args := [d] }
  | _ => none }
def RulesCountWrongFalsely : Prop := rulesCountRow.holds Try.pinned (OpenSpec.ofChange rulesCountWrong)

/-- 'raftsmanlaw15.TiersApart': WHATEVER THE INPUT: true; the input reads as it did. -/
def tiersApartSpec : ChangeSpec := { name := "tiersApart", fn := fun _ => fun
  | [d1, d2, d3, d4, d5] => { results := [.lit (.bool true)], args := [d1, d2, d3, d4, d5] }
  | _ => none }
def tiersApartRow : OpenClaim := { program := "ytibnmlbjahcjmaa", sum := "d6c13457bd632693fe32742914eca2c66f73237a582e57e75c9fa633aae5c6db", func := "raftsman/raftsmanlaw15.TiersApart", spec := "tiersApart", named := ["math/bits.divideError", "math/bits.overflowError"], apart := false }
def TiersApartSaid : Prop := tiersApartRow.holds Try.pinned (OpenSpec.ofChange tiersApartSpec)

/-- ITS FALSE NEIGHBOUR: 'it returns false'. Refute it at one input. -/
def tiersApartWrong : ChangeSpec := { name := "tiersApart", fn := fun _ => fun
  | [d1, d2, d3, d4, d5] => { results := [.lit (.bool false)], args := [d1, d2, d3, d4, d5] }
  | _ => none }
def TiersApartWrongFalsely : Prop := tiersApartRow.holds Try.pinned (OpenSpec.ofChange tiersApartWrong)

/-- 'raftsmanlaw15.TiersOne': WHATEVER THE INPUT: true; the input reads as it did. -/
def tiersOneSpec : ChangeSpec := { name := "tiersOne", fn := fun _ => fun
  | [d1, d2, d3] => { results := [.lit (.bool true)], args := [d1, d2, d3] }
  | _ => none }
def tiersOneRow : OpenClaim := { program := "ytibnmlbjahcjmaa", sum := "d6c13457bd632693fe32742914eca2c66f73237a582e57e75c9fa633aae5c6db", func := "raftsman/raftsmanlaw15.TiersOne", spec := "tiersOne", named := ["math/bits.divideError", "math/bits.overflowError"], apart := false }
def TiersOneSaid : Prop := tiersOneRow.holds Try.pinned (OpenSpec.ofChange tiersOneSpec)

/-- ITS FALSE NEIGHBOUR: 'it returns false'. Refute it at one input. -/
def tiersOneWrong : ChangeSpec := { name := "tiersOne", fn := fun _ => fun
  | [d1, d2, d3] => { results := [.lit (.bool false)], args := [d1, d2, d3] }
  | _ => none }
def TiersOneWrongFalsely : Prop := tiersOneRow.holds Try.pinned (OpenSpec.ofChange tiersOneWrong)

/-- 'raftsmanlaw15.TiersEnds': WHATEVER THE INPUT: true; the input reads as it did. -/
def tiersEndsSpec : ChangeSpec := { name := "tiersEnds", fn := fun _ => fun
  | [d1, d2, d3] => { results := [.lit (.bool true)], args := [d1, d2, d3] }
  | _ => none }
def tiersEndsRow : OpenClaim := { program := "ytibnmlbjahcjmaa", sum := "d6c13457bd632693fe32742914eca2c66f73237a582e57e75c9fa633aae5c6db", func := "raftsman/raftsmanlaw15.TiersEnds", spec := "tiersEnds", named := ["math/bits.divideError", "math/bits.overflowError"], apart := false }
def TiersEndsSaid : Prop := tiersEndsRow.holds Try.pinned (OpenSpec.ofChange tiersEndsSpec)

/-- ITS FALSE NEIGHBOUR: 'it returns false'. Refute it at one input. -/
def tiersEndsWrong : ChangeSpec := { name := "tiersEnds", fn := fun _ => fun
  | [d1, d2, d3] => { results := [.lit (.bool false)], args := [d1, d2, d3] }
  | _ => none }
def TiersEndsWrongFalsely : Prop := tiersEndsRow.holds Try.pinned (OpenSpec.ofChange tiersEndsWrong)

/-- 'raftsmanlaw15.TiersRefine': WHATEVER THE INPUT: true; the input reads as it did. -/
def tiersRefineSpec : ChangeSpec := { name := "tiersRefine", fn := fun _ => fun
  | [d1, d2, d3] => { results := [.lit (.bool true)], args := [d1, d2, d3] }
  | _ => none }
def tiersRefineRow : OpenClaim := { program := "ytibnmlbjahcjmaa", sum := "d6c13457bd632693fe32742914eca2c66f73237a582e57e75c9fa633aae5c6db", func := "raftsman/raftsmanlaw15.TiersRefine", spec := "tiersRefine", named := ["math/bits.divideError", "math/bits.overflowError"], apart := false }
def TiersRefineSaid : Prop := tiersRefineRow.holds Try.pinned (OpenSpec.ofChange tiersRefineSpec)

/-- ITS FALSE NEIGHBOUR: 'it returns false'. Refute it at one input. -/
def tiersRefineWrong : ChangeSpec := { name := "tiersRefine", fn := fun _ => fun
  | [d1, d2, d3] => { results := [.lit (.bool false)], args := [d1, d2, d3] }
  | _ => none }
def TiersRefineWrongFalsely : Prop := tiersRefineRow.holds Try.pinned (OpenSpec.ofChange tiersRefineWrong)

/-- 'raftsmanlaw15.TiersBack': WHATEVER THE INPUT: true; the input reads as it did. -/
def tiersBackSpec : ChangeSpec := { name := "tiersBack", fn := fun _ => fun
  | [d1, d2, d3] => { results := [.lit (.bool true)], args := [d1, d2, d3] }
  | _ => none }
def tiersBackRow : OpenClaim := { program := "ytibnmlbjahcjmaa", sum := "d6c13457bd632693fe32742914eca2c66f73237a582e57e75c9fa633aae5c6db", func := "raftsman/raftsmanlaw15.TiersBack", spec := "tiersBack", named := ["math/bits.divideError", "math/bits.overflowError"], apart := false }
def TiersBackSaid : Prop := tiersBackRow.holds Try.pinned (OpenSpec.ofChange tiersBackSpec)

/-- ITS FALSE NEIGHBOUR: 'it returns false'. Refute it at one input. -/
def tiersBackWrong : ChangeSpec := { name := "tiersBack", fn := fun _ => fun
  | [d1, d2, d3] => { results := [.lit (.bool false)], args := [d1, d2, d3] }
  | _ => none }
def TiersBackWrongFalsely : Prop := tiersBackRow.holds Try.pinned (OpenSpec.ofChange tiersBackWrong)

/-- 'raftsmanlaw15.TiersMend': WHATEVER THE INPUT: true; the input reads as it did. -/
def tiersMendSpec : ChangeSpec := { name := "tiersMend", fn := fun _ => fun
  | [d1, d2, d3] => { results := [.lit (.bool true)], args := [d1, d2, d3] }
  | _ => none }
def tiersMendRow : OpenClaim := { program := "ytibnmlbjahcjmaa", sum := "d6c13457bd632693fe32742914eca2c66f73237a582e57e75c9fa633aae5c6db", func := "raftsman/raftsmanlaw15.TiersMend", spec := "tiersMend", named := ["math/bits.divideError", "math/bits.overflowError"], apart := false }
def TiersMendSaid : Prop := tiersMendRow.holds Try.pinned (OpenSpec.ofChange tiersMendSpec)

/-- ITS FALSE NEIGHBOUR: 'it returns false'. Refute it at one input. -/
def tiersMendWrong : ChangeSpec := { name := "tiersMend", fn := fun _ => fun
  | [d1, d2, d3] => { results := [.lit (.bool false)], args := [d1, d2, d3] }
  | _ => none }
def TiersMendWrongFalsely : Prop := tiersMendRow.holds Try.pinned (OpenSpec.ofChange tiersMendWrong)

/-- 'raftsmanlaw20.AuditGoes': WHATEVER THE INPUT: true; the input reads as it did. -/
def auditGoesSpec : ChangeSpec := { name := "auditGoes", fn := fun _ => fun
  | [d1, d2, d3] => { results := [.lit (.bool true)], args := [d1, d2, d3] }
  | _ => none }
def auditGoesRow : OpenClaim := { program := "ytibnmlbjahcjmaa", sum := "d6c13457bd632693fe32742914eca2c66f73237a582e57e75c9fa633aae5c6db", func := "raftsman/raftsmanlaw20.AuditGoes", spec := "auditGoes", named := ["math/bits.divideError", "math/bits.overflowError"], apart := false }
def AuditGoesSaid : Prop := auditGoesRow.holds Try.pinned (OpenSpec.ofChange auditGoesSpec)

/-- ITS FALSE NEIGHBOUR: 'it returns false'. Refute it at one input. -/
def auditGoesWrong : ChangeSpec := { name := "auditGoes", fn := fun _ => fun
  | [d1, d2, d3] => { results := [.lit (.bool false)], args := [d1, d2, d3] }
  | _ => none }
def AuditGoesWrongFalsely : Prop := auditGoesRow.holds Try.pinned (OpenSpec.ofChange auditGoesWrong)

/-- 'raftsmanlaw16.RulesHold': WHATEVER THE INPUT: true; the input reads as it did. -/
def rulesHoldSpec : ChangeSpec := { name := "rulesHold", fn := fun _ => fun
  | [d1, d2, d3] => { results := [.lit (.bool true)], args := [d1, d2, d3] }
  | _ => none }
def rulesHoldRow : OpenClaim := { program := "ytibnmlbjahcjmaa", sum := "d6c13457bd632693fe32742914eca2c66f73237a582e57e75c9fa633aae5c6db", func := "raftsman/raftsmanlaw16.RulesHold", spec := "rulesHold", named := ["math/bits.divideError", "math/bits.overflowError"], apart := false }
def RulesHoldSaid : Prop := rulesHoldRow.holds Try.pinned (OpenSpec.ofChange rulesHoldSpec)

/-- ITS FALSE NEIGHBOUR: 'it returns false'. Refute it at one input. -/
def rulesHoldWrong : ChangeSpec := { name := "rulesHold", fn := fun _ => fun
  | [d1, d2, d3] => { results := [.lit (.bool false)], args := [d1, d2, d3] }
  | _ => none }
def RulesHoldWrongFalsely : Prop := rulesHoldRow.holds Try.pinned (OpenSpec.ofChange rulesHoldWrong)

/-- 'raftsmanlaw16.RulesHalve': WHATEVER THE INPUT: true; the input reads as it did. -/
def rulesHalveSpec : ChangeSpec := { name := "rulesHalve", fn := fun _ => fun
  | [d1, d2, d3] => { results := [.lit (.bool true)], args := [d1, d2, d3] }
  | _ => none }
def rulesHalveRow : OpenClaim := { program := "ytibnmlbjahcjmaa", sum := "d6c13457bd632693fe32742914eca2c66f73237a582e57e75c9fa633aae5c6db", func := "raftsman/raftsmanlaw16.RulesHalve", spec := "rulesHalve", named := ["math/bits.divideError", "math/bits.overflowError"], apart := false }
def RulesHalveSaid : Prop := rulesHalveRow.holds Try.pinned (OpenSpec.ofChange rulesHalveSpec)

/-- ITS FALSE NEIGHBOUR: 'it returns false'. Refute it at one input. -/
def rulesHalveWrong : ChangeSpec := { name := "rulesHalve", fn := fun _ => fun
  | [d1, d2, d3] => { results := [.lit (.bool false)], args := [d1, d2, d3] }
  | _ => none }
def RulesHalveWrongFalsely : Prop := rulesHalveRow.holds Try.pinned (OpenSpec.ofChange rulesHalveWrong)

/- THE SECOND FORM. 'bulk': how many values and letters a reading holds, each counted each time it is reached (what is shared counts as often as it is met; a slice's spare places count too). A statement '..UptoSaid' is the law's where the arguments, and the package variables that the reading takes, are together of bulk at most 1048576: NARROWER than '..Said'. Prove '..Said' where nothing that the law and all that it calls make is longer than what came in: it says more and counts as full. Else prove '..UptoSaid'. A law counts once. -/
mutual
def uptoBulk {H : Type} : DataW H → Nat
  | .lit (.string bytes) => bytes.length + 1
  | .lit _ => 1
  | .nil => 1
  | .ptr d => uptoBulk d + 1
  | .slice elems spare => uptoBulkAll elems + uptoBulkAll spare + 1
  | .agg parts => uptoBulkAll parts + 1
  | .iface _ d => uptoBulk d + 1
  | .map entries => uptoBulkEntries entries + 1
  | .held _ => 1
def uptoBulkAll {H : Type} : List (DataW H) → Nat
  | [] => 0
  | d :: r => uptoBulk d + uptoBulkAll r
def uptoBulkEntries {H : Type} : List (Lit × DataW H) → Nat
  | [] => 0
  | x :: r => uptoBulkEntry x + uptoBulkEntries r
def uptoBulkEntry {H : Type} : Lit × DataW H → Nat
  | (.string bytes, d) => bytes.length + uptoBulk d + 1
  | (_, d) => uptoBulk d + 1
 end
def uptoSmall : (H : Type) → List (DataW H) → Bool := fun _ ds => decide (uptoBulkAll ds ≤ 1048576)
def OpenSpec.upto (s : _root_.Go.ChangeSpec) : _root_.Go.OpenSpec := { _root_.Go.OpenSpec.ofChange s with cond := some uptoSmall }

/-- 'raftsmanlaw20.AuditTells', WHERE WHAT IT READS IS OF BULK AT MOST 1048576: true; the input reads as it did. -/
def auditTellsUptoRow : OpenClaim := { program := "ytibnmlbjahcjmaa", sum := "d6c13457bd632693fe32742914eca2c66f73237a582e57e75c9fa633aae5c6db", func := "raftsman/raftsmanlaw20.AuditTells", spec := "auditTells", apart := false, narrowed := true }
def AuditTellsUptoSaid : Prop := auditTellsUptoRow.holds Try.pinned (OpenSpec.upto auditTellsSpec)

/-- 'raftsmanlaw20.AuditBare', WHERE WHAT IT READS IS OF BULK AT MOST 1048576: true; the input reads as it did. -/
def auditBareUptoRow : OpenClaim := { program := "ytibnmlbjahcjmaa", sum := "d6c13457bd632693fe32742914eca2c66f73237a582e57e75c9fa633aae5c6db", func := "raftsman/raftsmanlaw20.AuditBare", spec := "auditBare", apart := false, narrowed := true }
def AuditBareUptoSaid : Prop := auditBareUptoRow.holds Try.pinned (OpenSpec.upto auditBareSpec)

/-- 'raftsmanlaw20.AuditThree', WHERE WHAT IT READS IS OF BULK AT MOST 1048576: true; the input reads as it did. -/
def auditThreeUptoRow : OpenClaim := { program := "ytibnmlbjahcjmaa", sum := "d6c13457bd632693fe32742914eca2c66f73237a582e57e75c9fa633aae5c6db", func := "raftsman/raftsmanlaw20.AuditThree", spec := "auditThree", apart := false, narrowed := true }
def AuditThreeUptoSaid : Prop := auditThreeUptoRow.holds Try.pinned (OpenSpec.upto auditThreeSpec)

/-- 'raftsmanlaw14.SearchTells', WHERE WHAT IT READS IS OF BULK AT MOST 1048576: true; the input reads as it did. -/
def searchTellsUptoRow : OpenClaim := { program := "ytibnmlbjahcjmaa", sum := "d6c13457bd632693fe32742914eca2c66f73237a582e57e75c9fa633aae5c6db", func := "raftsman/raftsmanlaw14.SearchTells", spec := "searchTells", named := ["math/bits.divideError", "math/bits.overflowError"], apart := false, narrowed := true }
def SearchTellsUptoSaid : Prop := searchTellsUptoRow.holds Try.pinned (OpenSpec.upto searchTellsSpec)

/-- 'raftsmanlaw14.SearchFinds', WHERE WHAT IT READS IS OF BULK AT MOST 1048576: true; the input reads as it did. -/
def searchFindsUptoRow : OpenClaim := { program := "ytibnmlbjahcjmaa", sum := "d6c13457bd632693fe32742914eca2c66f73237a582e57e75c9fa633aae5c6db", func := "raftsman/raftsmanlaw14.SearchFinds", spec := "searchFinds", named := ["math/bits.divideError", "math/bits.overflowError"], apart := false, narrowed := true }
def SearchFindsUptoSaid : Prop := searchFindsUptoRow.holds Try.pinned (OpenSpec.upto searchFindsSpec)

/-- 'raftsmanlaw14.SearchTrees', WHERE WHAT IT READS IS OF BULK AT MOST 1048576: true; the input reads as it did. -/
def searchTreesUptoRow : OpenClaim := { program := "ytibnmlbjahcjmaa", sum := "d6c13457bd632693fe32742914eca2c66f73237a582e57e75c9fa633aae5c6db", func := "raftsman/raftsmanlaw14.SearchTrees", spec := "searchTrees", named := ["math/bits.divideError", "math/bits.overflowError"], apart := false, narrowed := true }
def SearchTreesUptoSaid : Prop := searchTreesUptoRow.holds Try.pinned (OpenSpec.upto searchTreesSpec)

/-- 'raftsmanlaw14.SearchWords', WHERE WHAT IT READS IS OF BULK AT MOST 1048576: true; the input reads as it did. -/
def searchWordsUptoRow : OpenClaim := { program := "ytibnmlbjahcjmaa", sum := "d6c13457bd632693fe32742914eca2c66f73237a582e57e75c9fa633aae5c6db", func := "raftsman/raftsmanlaw14.SearchWords", spec := "searchWords", named := ["math/bits.divideError", "math/bits.overflowError"], apart := false, narrowed := true }
def SearchWordsUptoSaid : Prop := searchWordsUptoRow.holds Try.pinned (OpenSpec.upto searchWordsSpec)

/-- 'raftsmanlaw14.SearchLevel', WHERE WHAT IT READS IS OF BULK AT MOST 1048576: true; the input reads as it did. -/
def searchLevelUptoRow : OpenClaim := { program := "ytibnmlbjahcjmaa", sum := "d6c13457bd632693fe32742914eca2c66f73237a582e57e75c9fa633aae5c6db", func := "raftsman/raftsmanlaw14.SearchLevel", spec := "searchLevel", named := ["math/bits.divideError", "math/bits.overflowError"], apart := false, narrowed := true }
def SearchLevelUptoSaid : Prop := searchLevelUptoRow.holds Try.pinned (OpenSpec.upto searchLevelSpec)

/-- 'raftsmanlaw16.RulesTell', WHERE WHAT IT READS IS OF BULK AT MOST 1048576: true; the input reads as it did. -/
def rulesTellUptoRow : OpenClaim := { program := "ytibnmlbjahcjmaa", sum := "d6c13457bd632693fe32742914eca2c66f73237a582e57e75c9fa633aae5c6db", func := "raftsman/raftsmanlaw16.RulesTell", spec := "rulesTell", named := ["math/bits.divideError", "math/bits.overflowError"], apart := false, narrowed := true }
def RulesTellUptoSaid : Prop := rulesTellUptoRow.holds Try.pinned (OpenSpec.upto rulesTellSpec)

/-- 'raftsmanlaw16.RulesStay', WHERE WHAT IT READS IS OF BULK AT MOST 1048576: true; the input reads as it did. -/
def rulesStayUptoRow : OpenClaim := { program := "ytibnmlbjahcjmaa", sum := "d6c13457bd632693fe32742914eca2c66f73237a582e57e75c9fa633aae5c6db", func := "raftsman/raftsmanlaw16.RulesStay", spec := "rulesStay", named := ["math/bits.divideError", "math/bits.overflowError"], apart := false, narrowed := true }
def RulesStayUptoSaid : Prop := rulesStayUptoRow.holds Try.pinned (OpenSpec.upto rulesStaySpec)

/-- 'raftsmanlaw16.RulesMended', WHERE WHAT IT READS IS OF BULK AT MOST 1048576: true; the input reads as it did. -/
def rulesMendedUptoRow : OpenClaim := { program := "ytibnmlbjahcjmaa", sum := "d6c13457bd632693fe32742914eca2c66f73237a582e57e75c9fa633aae5c6db", func := "raftsman/raftsmanlaw16.RulesMended", spec := "rulesMended", named := ["math/bits.divideError", "math/bits.overflowError"], apart := false, narrowed := true }
def RulesMendedUptoSaid : Prop := rulesMendedUptoRow.holds Try.pinned (OpenSpec.upto rulesMendedSpec)

/-- 'raftsmanlaw20.AuditMends', WHERE WHAT IT READS IS OF BULK AT MOST 1048576: true; the input reads as it did. -/
def auditMendsUptoRow : OpenClaim := { program := "ytibnmlbjahcjmaa", sum := "d6c13457bd632693fe32742914eca2c66f73237a582e57e75c9fa633aae5c6db", func := "raftsman/raftsmanlaw20.AuditMends", spec := "auditMends", named := ["math/bits.divideError", "math/bits.overflowError"], apart := false, narrowed := true }
def AuditMendsUptoSaid : Prop := auditMendsUptoRow.holds Try.pinned (OpenSpec.upto auditMendsSpec)

/-- 'raftsmanlaw16.RulesCount', WHERE WHAT IT READS IS OF BULK AT MOST 1048576: true; the input reads as it did. -/
def rulesCountUptoRow : OpenClaim := { program := "ytibnmlbjahcjmaa", sum := "d6c13457bd632693fe32742914eca2c66f73237a582e57e75c9fa633aae5c6db", func := "raftsman/raftsmanlaw16.RulesCount", spec := "rulesCount", named := ["math/bits.divideError", "math/bits.overflowError"], apart := false, narrowed := true }
def RulesCountUptoSaid : Prop := rulesCountUptoRow.holds Try.pinned (OpenSpec.upto rulesCountSpec)

/-- 'raftsmanlaw15.TiersApart', WHERE WHAT IT READS IS OF BULK AT MOST 1048576: true; the input reads as it did. -/
def tiersApartUptoRow : OpenClaim := { program := "ytibnmlbjahcjmaa", sum := "d6c13457bd632693fe32742914eca2c66f73237a582e57e75c9fa633aae5c6db", func := "raftsman/raftsmanlaw15.TiersApart", spec := "tiersApart", named := ["math/bits.divideError", "math/bits.overflowError"], apart := false, narrowed := true }
def TiersApartUptoSaid : Prop := tiersApartUptoRow.holds Try.pinned (OpenSpec.upto tiersApartSpec)

/-- 'raftsmanlaw15.TiersOne', WHERE WHAT IT READS IS OF BULK AT MOST 1048576: true; the input reads as it did. -/
def tiersOneUptoRow : OpenClaim := { program := "ytibnmlbjahcjmaa", sum := "d6c13457bd632693fe32742914eca2c66f73237a582e57e75c9fa633aae5c6db", func := "raftsman/raftsmanlaw15.TiersOne", spec := "tiersOne", named := ["math/bits.divideError", "math/bits.overflowError"], apart := false, narrowed := true }
def TiersOneUptoSaid : Prop := tiersOneUptoRow.holds Try.pinned (OpenSpec.upto tiersOneSpec)

/-- 'raftsmanlaw15.TiersEnds', WHERE WHAT IT READS IS OF BULK AT MOST 1048576: true; the input reads as it did. -/
def tiersEndsUptoRow : OpenClaim := { program := "ytibnmlbjahcjmaa", sum := "d6c13457bd632693fe32742914eca2c66f73237a582e57e75c9fa633aae5c6db", func := "raftsman/raftsmanlaw15.TiersEnds", spec := "tiersEnds", named := ["math/bits.divideError", "math/bits.overflowError"], apart := false, narrowed := true }
def TiersEndsUptoSaid : Prop := tiersEndsUptoRow.holds Try.pinned (OpenSpec.upto tiersEndsSpec)

/-- 'raftsmanlaw15.TiersRefine', WHERE WHAT IT READS IS OF BULK AT MOST 1048576: true; the input reads as it did. -/
def tiersRefineUptoRow : OpenClaim := { program := "ytibnmlbjahcjmaa", sum := "d6c13457bd632693fe32742914eca2c66f73237a582e57e75c9fa633aae5c6db", func := "raftsman/raftsmanlaw15.TiersRefine", spec := "tiersRefine", named := ["math/bits.divideError", "math/bits.overflowError"], apart := false, narrowed := true }
def TiersRefineUptoSaid : Prop := tiersRefineUptoRow.holds Try.pinned (OpenSpec.upto tiersRefineSpec)

/-- 'raftsmanlaw15.TiersBack', WHERE WHAT IT READS IS OF BULK AT MOST 1048576: true; the input reads as it did. -/
def tiersBackUptoRow : OpenClaim := { program := "ytibnmlbjahcjmaa", sum := "d6c13457bd632693fe32742914eca2c66f73237a582e57e75c9fa633aae5c6db", func := "raftsman/raftsmanlaw15.TiersBack", spec := "tiersBack", named := ["math/bits.divideError", "math/bits.overflowError"], apart := false, narrowed := true }
def TiersBackUptoSaid : Prop := tiersBackUptoRow.holds Try.pinned (OpenSpec.upto tiersBackSpec)

/-- 'raftsmanlaw15.TiersMend', WHERE WHAT IT READS IS OF BULK AT MOST 1048576: true; the input reads as it did. -/
def tiersMendUptoRow : OpenClaim := { program := "ytibnmlbjahcjmaa", sum := "d6c13457bd632693fe32742914eca2c66f73237a582e57e75c9fa633aae5c6db", func := "raftsman/raftsmanlaw15.TiersMend", spec := "tiersMend", named := ["math/bits.divideError", "math/bits.overflowError"], apart := false, narrowed := true }
def TiersMendUptoSaid : Prop := tiersMendUptoRow.holds Try.pinned (OpenSpec.upto tiersMendSpec)

/-- 'raftsmanlaw20.AuditGoes', WHERE WHAT IT READS IS OF BULK AT MOST 1048576: true; the input reads as it did. -/
def auditGoesUptoRow : OpenClaim := { program := "ytibnmlbjahcjmaa", sum := "d6c13457bd632693fe32742914eca2c66f73237a582e57e75c9fa633aae5c6db", func := "raftsman/raftsmanlaw20.AuditGoes", spec := "auditGoes", named := ["math/bits.divideError", "math/bits.overflowError"], apart := false, narrowed := true }
def AuditGoesUptoSaid : Prop := auditGoesUptoRow.holds Try.pinned (OpenSpec.upto auditGoesSpec)

/-- 'raftsmanlaw16.RulesHold', WHERE WHAT IT READS IS OF BULK AT MOST 1048576: true; the input reads as it did. -/
def rulesHoldUptoRow : OpenClaim := { program := "ytibnmlbjahcjmaa", sum := "d6c13457bd632693fe32742914eca2c66f73237a582e57e75c9fa633aae5c6db", func := "raftsman/raftsmanlaw16.RulesHold", spec := "rulesHold", named := ["math/bits.divideError", "math/bits.overflowError"], apart := false, narrowed := true }
def RulesHoldUptoSaid : Prop := rulesHoldUptoRow.holds Try.pinned (OpenSpec.upto rulesHoldSpec)

/-- 'raftsmanlaw16.RulesHalve', WHERE WHAT IT READS IS OF BULK AT MOST 1048576: true; the input reads as it did. -/
def rulesHalveUptoRow : OpenClaim := { program := "ytibnmlbjahcjmaa", sum := "d6c13457bd632693fe32742914eca2c66f73237a582e57e75c9fa633aae5c6db", func := "raftsman/raftsmanlaw16.RulesHalve", spec := "rulesHalve", named := ["math/bits.divideError", "math/bits.overflowError"], apart := false, narrowed := true }
def RulesHalveUptoSaid : Prop := rulesHalveUptoRow.holds Try.pinned (OpenSpec.upto rulesHalveSpec)

end Rows
end Go.Proofs.Ytibnmlbjahcjmaa
