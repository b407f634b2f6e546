/-
  No cell of these rows narrows 'for every input' (looked for: loops, veiled, ifaces, maps, wideKeys, modest, calm, conditions, laid).
  DERIVED. THE GIVEN ROWS OF THIS SEAT. 7 by the template 'for every input the law returns true; each argument reads behind the call as it read before'; 0 by the template 'total and deterministic' (their statements: YtghcecjegcakkaaTotals.lean).
  GIVEN WITH THE SEED: the statements are not yours to turn. If you find one false, say at which input.
  Laid BY PROGRAM, IN A SANDBOX (cutbox-rows.mjs): the forced cells as the released guide's own fill.sh prints them over the translation 49343b37075b3278… (all of the seat's roots in one cut). By AI agents, Wed Nov 11 2026. No macro, syntax, notation, axiom, sorry.
-/
import Derived.Test.YtghcecjegcakkaaChecked
import GoSem.Claim
import GoSem.ClaimJoined
import GoSem.ClaimMapViews
import Derived.JoinedTies
import Derived.KernelRfl
namespace Go.Proofs.Ytghcecjegcakkaa
/- THE CELL 'sum', in the pinned program and in every row, IS THE sha256 OF THE DUMP (.gsa) THAT YtghcecjegcakkaaProg.lean LOADS. Nothing in Lean hashes anything: it is a label: what it is worth is what the hold of that sum in a sandbox is worth. -/
noncomputable def Try.pinned : Pinned := { name := "ytghcecjegcakkaa", sum := "49343b37075b3278519b471270650466b66ad09d2efd02ef9d83653218817571", checked := Try.checked }
namespace Rows
def none {H : Type} : Left H := { results := [], args := [] }

/-- 'raftsmanlaw17.NatTells': WHATEVER THE INPUT: true; the input reads as it did. -/
def natTellsSpec : ChangeSpec := { name := "natTells", fn := fun _ => fun
  | [d1, d2, d3] => { results := [.lit (.bool true)], args := [d1, d2, d3] }
  | _ => none }
def natTellsRow : OpenClaim := { program := "ytghcecjegcakkaa", sum := "49343b37075b3278519b471270650466b66ad09d2efd02ef9d83653218817571", func := "raftsman/raftsmanlaw17.NatTells", spec := "natTells", apart := false }
def NatTellsSaid : Prop := natTellsRow.holds Try.pinned (OpenSpec.ofChange natTellsSpec)

/-- ITS FALSE NEIGHBOUR: 'it returns false'. Refute it at one input. -/
def natTellsWrong : ChangeSpec := { name := "natTells", fn := fun _ => fun
  | [d1, d2, d3] => { results := [.lit (.bool false)], args := [d1, d2, d3] }
  | _ => none }
def NatTellsWrongFalsely : Prop := natTellsRow.holds Try.pinned (OpenSpec.ofChange natTellsWrong)

/-- 'raftsmanlaw17.NatLong': WHATEVER THE INPUT: true; the input reads as it did. -/
def natLongSpec : ChangeSpec := { name := "natLong", fn := fun _ => fun
  | [d1, d2, d3, d4, d5] => { results := [.lit (.bool true)], args := [d1, d2, d3, d4, d5] }
  | _ => none }
def natLongRow : OpenClaim := { program := "ytghcecjegcakkaa", sum := "49343b37075b3278519b471270650466b66ad09d2efd02ef9d83653218817571", func := "raftsman/raftsmanlaw17.NatLong", spec := "natLong", apart := false }
def NatLongSaid : Prop := natLongRow.holds Try.pinned (OpenSpec.ofChange natLongSpec)

/-- ITS FALSE NEIGHBOUR: 'it returns false'. Refute it at one input. -/
def natLongWrong : ChangeSpec := { name := "natLong", fn := fun _ => fun
  | [d1, d2, d3, d4, d5] => { results := [.lit (.bool false)], args := [d1, d2, d3, d4, d5] }
  | _ => none }
def NatLongWrongFalsely : Prop := natLongRow.holds Try.pinned (OpenSpec.ofChange natLongWrong)

/-- 'raftsmanlaw17.NatPowers': WHATEVER THE INPUT: true; the input reads as it did. -/
def natPowersSpec : ChangeSpec := { name := "natPowers", fn := fun _ => fun
  | [d1, d2] => { results := [.lit (.bool true)], args := [d1, d2] }
  | _ => none }
def natPowersRow : OpenClaim := { program := "ytghcecjegcakkaa", sum := "49343b37075b3278519b471270650466b66ad09d2efd02ef9d83653218817571", func := "raftsman/raftsmanlaw17.NatPowers", spec := "natPowers", apart := false }
def NatPowersSaid : Prop := natPowersRow.holds Try.pinned (OpenSpec.ofChange natPowersSpec)

/-- ITS FALSE NEIGHBOUR: 'it returns false'. Refute it at one input. -/
def natPowersWrong : ChangeSpec := { name := "natPowers", fn := fun _ => fun
  | [d1, d2] => { results := [.lit (.bool false)], args := [d1, d2] }
  | _ => none }
def NatPowersWrongFalsely : Prop := natPowersRow.holds Try.pinned (OpenSpec.ofChange natPowersWrong)

/-- 'raftsmanlaw17.NatLaws': WHATEVER THE INPUT: true; the input reads as it did. -/
def natLawsSpec : ChangeSpec := { name := "natLaws", fn := fun _ => fun
  | [d1, d2, d3, d4, d5] => { results := [.lit (.bool true)], args := [d1, d2, d3, d4, d5] }
  | _ => none }
def natLawsRow : OpenClaim := { program := "ytghcecjegcakkaa", sum := "49343b37075b3278519b471270650466b66ad09d2efd02ef9d83653218817571", func := "raftsman/raftsmanlaw17.NatLaws", spec := "natLaws", apart := false }
def NatLawsSaid : Prop := natLawsRow.holds Try.pinned (OpenSpec.ofChange natLawsSpec)

/-- ITS FALSE NEIGHBOUR: 'it returns false'. Refute it at one input. -/
def natLawsWrong : ChangeSpec := { name := "natLaws", fn := fun _ => fun
  | [d1, d2, d3, d4, d5] => { results := [.lit (.bool false)], args := [d1, d2, d3, d4, d5] }
  | _ => none }
def NatLawsWrongFalsely : Prop := natLawsRow.holds Try.pinned (OpenSpec.ofChange natLawsWrong)

/-- 'raftsmanlaw17.NatOf': WHATEVER THE INPUT: true; the input reads as it did. -/
def natOfSpec : ChangeSpec := { name := "natOf", fn := fun _ => fun
  | [d1, d2] => { results := [.lit (.bool true)], args := [d1, d2] }
  | _ => none }
def natOfRow : OpenClaim := { program := "ytghcecjegcakkaa", sum := "49343b37075b3278519b471270650466b66ad09d2efd02ef9d83653218817571", func := "raftsman/raftsmanlaw17.NatOf", spec := "natOf", apart := false }
def NatOfSaid : Prop := natOfRow.holds Try.pinned (OpenSpec.ofChange natOfSpec)

/-- ITS FALSE NEIGHBOUR: 'it returns false'. Refute it at one input. -/
def natOfWrong : ChangeSpec := { name := "natOf", fn := fun _ => fun
  | [d1, d2] => { results := [.lit (.bool false)], args := [d1, d2] }
  | _ => none }
def NatOfWrongFalsely : Prop := natOfRow.holds Try.pinned (OpenSpec.ofChange natOfWrong)

/-- 'raftsmanlaw17.NatSquare': WHATEVER THE INPUT: true; the input reads as it did. -/
def natSquareSpec : ChangeSpec := { name := "natSquare", fn := fun _ => fun
  | [d1, d2] => { results := [.lit (.bool true)], args := [d1, d2] }
  | _ => none }
def natSquareRow : OpenClaim := { program := "ytghcecjegcakkaa", sum := "49343b37075b3278519b471270650466b66ad09d2efd02ef9d83653218817571", func := "raftsman/raftsmanlaw17.NatSquare", spec := "natSquare", apart := false }
def NatSquareSaid : Prop := natSquareRow.holds Try.pinned (OpenSpec.ofChange natSquareSpec)

/-- ITS FALSE NEIGHBOUR: 'it returns false'. Refute it at one input. -/
def natSquareWrong : ChangeSpec := { name := "natSquare", fn := fun _ => fun
  | [d1, d2] => { results := [.lit (.bool false)], args := [d1, d2] }
  | _ => none }
def NatSquareWrongFalsely : Prop := natSquareRow.holds Try.pinned (OpenSpec.ofChange natSquareWrong)

/-- 'raftsmanlaw17.NatOrder': WHATEVER THE INPUT: true; the input reads as it did. -/
def natOrderSpec : ChangeSpec := { name := "natOrder", fn := fun _ => fun
  | [d1, d2, d3] => { results := [.lit (.bool true)], args := [d1, d2, d3] }
  | _ => none }
def natOrderRow : OpenClaim := { program := "ytghcecjegcakkaa", sum := "49343b37075b3278519b471270650466b66ad09d2efd02ef9d83653218817571", func := "raftsman/raftsmanlaw17.NatOrder", spec := "natOrder", apart := false }
def NatOrderSaid : Prop := natOrderRow.holds Try.pinned (OpenSpec.ofChange natOrderSpec)

/-- ITS FALSE NEIGHBOUR: 'it returns false'. Refute it at one input. -/
def natOrderWrong : ChangeSpec := { name := "natOrder", fn := fun _ => fun
  | [d1, d2, d3] => { results := [.lit (.bool false)], args := [d1, d2, d3] }
  | _ => none }
def NatOrderWrongFalsely : Prop := natOrderRow.holds Try.pinned (OpenSpec.ofChange natOrderWrong)

/- THE SECOND FORM. 'bulk': how many values and letters a reading holds, each counted each time it is reached (what is shared counts as often as it is met; a slice's spare places count too). A statement '..UptoSaid' is the law's where the arguments, and the package variables that the reading takes, are together of bulk at most 1048576: NARROWER than '..Said'. Prove '..Said' where nothing that the law and all that it calls make is longer than what came in: it says more and counts as full. Else prove '..UptoSaid'. A law counts once. -/
mutual
def uptoBulk {H : Type} : DataW H → Nat
  | .lit (.string bytes) => bytes.length + 1
  | .lit _ => 1
  | .nil => 1
  | .ptr d => uptoBulk d + 1
  | .slice elems spare => uptoBulkAll elems + uptoBulkAll spare + 1
  | .agg parts => uptoBulkAll parts + 1
  | .iface _ d => uptoBulk d + 1
  | .map entries => uptoBulkEntries entries + 1
  | .held _ => 1
def uptoBulkAll {H : Type} : List (DataW H) → Nat
  | [] => 0
  | d :: r => uptoBulk d + uptoBulkAll r
def uptoBulkEntries {H : Type} : List (Lit × DataW H) → Nat
  | [] => 0
  | x :: r => uptoBulkEntry x + uptoBulkEntries r
def uptoBulkEntry {H : Type} : Lit × DataW H → Nat
  | (.string bytes, d) => bytes.length + uptoBulk d + 1
  | (_, d) => uptoBulk d + 1
 end
def uptoSmall : (H : Type) → List (DataW H) → Bool := fun _ ds => decide (uptoBulkAll ds ≤ 1048576)
def OpenSpec.upto (s : _root_.Go.ChangeSpec) : _root_.Go.OpenSpec := { _root_.Go.OpenSpec.ofChange s with cond := some uptoSmall }

/-- 'raftsmanlaw17.NatTells', WHERE WHAT IT READS IS OF BULK AT MOST 1048576: true; the input reads as it did. -/
def natTellsUptoRow : OpenClaim := { program := "ytghcecjegcakkaa", sum := "49343b37075b3278519b471270650466b66ad09d2efd02ef9d83653218817571", func := "raftsman/raftsmanlaw17.NatTells", spec := "natTells", apart := false, narrowed := true }
def NatTellsUptoSaid : Prop := natTellsUptoRow.holds Try.pinned (OpenSpec.upto natTellsSpec)

/-- 'raftsmanlaw17.NatLong', WHERE WHAT IT READS IS OF BULK AT MOST 1048576: true; the input reads as it did. -/
def natLongUptoRow : OpenClaim := { program := "ytghcecjegcakkaa", sum := "49343b37075b3278519b471270650466b66ad09d2efd02ef9d83653218817571", func := "raftsman/raftsmanlaw17.NatLong", spec := "natLong", apart := false, narrowed := true }
def NatLongUptoSaid : Prop := natLongUptoRow.holds Try.pinned (OpenSpec.upto natLongSpec)

/-- 'raftsmanlaw17.NatPowers', WHERE WHAT IT READS IS OF BULK AT MOST 1048576: true; the input reads as it did. -/
def natPowersUptoRow : OpenClaim := { program := "ytghcecjegcakkaa", sum := "49343b37075b3278519b471270650466b66ad09d2efd02ef9d83653218817571", func := "raftsman/raftsmanlaw17.NatPowers", spec := "natPowers", apart := false, narrowed := true }
def NatPowersUptoSaid : Prop := natPowersUptoRow.holds Try.pinned (OpenSpec.upto natPowersSpec)

/-- 'raftsmanlaw17.NatLaws', WHERE WHAT IT READS IS OF BULK AT MOST 1048576: true; the input reads as it did. -/
def natLawsUptoRow : OpenClaim := { program := "ytghcecjegcakkaa", sum := "49343b37075b3278519b471270650466b66ad09d2efd02ef9d83653218817571", func := "raftsman/raftsmanlaw17.NatLaws", spec := "natLaws", apart := false, narrowed := true }
def NatLawsUptoSaid : Prop := natLawsUptoRow.holds Try.pinned (OpenSpec.upto natLawsSpec)

/-- 'raftsmanlaw17.NatOf', WHERE WHAT IT READS IS OF BULK AT MOST 1048576: true; the input reads as it did. -/
def natOfUptoRow : OpenClaim := { program := "ytghcecjegcakkaa", sum := "49343b37075b3278519b471270650466b66ad09d2efd02ef9d83653218817571", func := "raftsman/raftsmanlaw17.NatOf", spec := "natOf", apart := false, narrowed := true }
def NatOfUptoSaid : Prop := natOfUptoRow.holds Try.pinned (OpenSpec.upto natOfSpec)

/-- 'raftsmanlaw17.NatSquare', WHERE WHAT IT READS IS OF BULK AT MOST 1048576: true; the input reads as it did. -/
def natSquareUptoRow : OpenClaim := { program := "ytghcecjegcakkaa", sum := "49343b37075b3278519b471270650466b66ad09d2efd02ef9d83653218817571", func := "raftsman/raftsmanlaw17.NatSquare", spec := "natSquare", apart := false, narrowed := true }
def NatSquareUptoSaid : Prop := natSquareUptoRow.holds Try.pinned (OpenSpec.upto natSquareSpec)

/-- 'raftsmanlaw17.NatOrder', WHERE WHAT IT READS IS OF BULK AT MOST 1048576: true; the input reads as it did. -/
def natOrderUptoRow : OpenClaim := { program := "ytghcecjegcakkaa", sum := "49343b37075b3278519b471270650466b66ad09d2efd02ef9d83653218817571", func := "raftsman/raftsmanlaw17.NatOrder", spec := "natOrder", apart := false, narrowed := true }
def NatOrderUptoSaid : Prop := natOrderUptoRow.holds Try.pinned (OpenSpec.upto natOrderSpec)

end Rows
end Go.Proofs.Ytghcecjegcakkaa
