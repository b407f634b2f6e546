/-
  No cell of these rows narrows 'for every input' (looked for: loops, veiled, ifaces, maps, wideKeys, modest, calm, conditions, laid).
  DERIVED. THE GIVEN ROWS OF THIS SEAT. 8 by the template 'for every input the law returns true; each argument reads behind the call as it read before'; 0 by the template 'total and deterministic' (their statements: YtoenhcdjahpdhaaTotals.lean).
  GIVEN WITH THE SEED: the statements are not yours to turn. If you find one false, say at which input.
  Laid BY PROGRAM, IN A SANDBOX (cutbox-rows.mjs): the forced cells as the released guide's own fill.sh prints them over the translation 8b0ea6f64a8d3113… (all of the seat's roots in one cut). By AI agents, Wed Nov 11 2026. No macro, syntax, notation, axiom, sorry.
-/
import Derived.Test.YtoenhcdjahpdhaaChecked
import GoSem.Claim
import GoSem.ClaimJoined
import GoSem.ClaimMapViews
import Derived.JoinedTies
import Derived.KernelRfl
namespace Go.Proofs.Ytoenhcdjahpdhaa
/- THE CELL 'sum', in the pinned program and in every row, IS THE sha256 OF THE DUMP (.gsa) THAT YtoenhcdjahpdhaaProg.lean LOADS. Nothing in Lean hashes anything: it is a label: what it is worth is what the hold of that sum in a sandbox is worth. -/
noncomputable def Try.pinned : Pinned := { name := "ytoenhcdjahpdhaa", sum := "8b0ea6f64a8d31131f015386ed4db464534295b7f9b3238a595b64f10e25cbd8", checked := Try.checked }
namespace Rows
def none {H : Type} : Left H := { results := [], args := [] }

/-- 'raftsmanlaw22.LexLines': WHATEVER THE INPUT: true; the input reads as it did. -/
def lexLinesSpec : ChangeSpec := { name := "lexLines", fn := fun _ => fun
  | [d] => { results := [.lit (.bool true)], args := [d] }
  | _ => none }
def lexLinesRow : OpenClaim := { program := "ytoenhcdjahpdhaa", sum := "8b0ea6f64a8d31131f015386ed4db464534295b7f9b3238a595b64f10e25cbd8", func := "raftsman/raftsmanlaw22.LexLines", spec := "lexLines", inPlace := ["internal/bytealg.IndexByteString"], apart := false }
def LexLinesSaid : Prop := lexLinesRow.holds Try.pinned (OpenSpec.ofChange lexLinesSpec)

/-- ITS FALSE NEIGHBOUR: 'it returns false'. Refute it at one input. -/
def lexLinesWrong : ChangeSpec := { name := "lexLines", fn := fun _ => fun
  | [d] => { results := [.lit (.bool false)], args := [d] }
  | _ => none }
def LexLinesWrongFalsely : Prop := lexLinesRow.holds Try.pinned (OpenSpec.ofChange lexLinesWrong)

/-- 'raftsmanlaw22.LexTells': WHATEVER THE INPUT: true; the input reads as it did. -/
def lexTellsSpec : ChangeSpec := { name := "lexTells", fn := fun _ => fun
  | [d1, d2] => { results := [.lit (.bool true)], args := [d1, d2] }
  | _ => none }
def lexTellsRow : OpenClaim := { program := "ytoenhcdjahpdhaa", sum := "8b0ea6f64a8d31131f015386ed4db464534295b7f9b3238a595b64f10e25cbd8", func := "raftsman/raftsmanlaw22.LexTells", spec := "lexTells", inPlace := ["internal/bytealg.IndexByteString"], apart := false }
def LexTellsSaid : Prop := lexTellsRow.holds Try.pinned (OpenSpec.ofChange lexTellsSpec)

/-- ITS FALSE NEIGHBOUR: 'it returns false'. Refute it at one input. -/
def lexTellsWrong : ChangeSpec := { name := "lexTells", fn := fun _ => fun
  | [d1, d2] => { results := [.lit (.bool false)], args := [d1, d2] }
  | _ => none }
def LexTellsWrongFalsely : Prop := lexTellsRow.holds Try.pinned (OpenSpec.ofChange lexTellsWrong)

/-- 'raftsmanlaw22.LexBack': WHATEVER THE INPUT: true; the input reads as it did. -/
def lexBackSpec : ChangeSpec := { name := "lexBack", fn := fun _ => fun
  | [d1, d2] => { results := [.lit (.bool true)], args := [d1, d2] }
  | _ => none }
def lexBackRow : OpenClaim := { program := "ytoenhcdjahpdhaa", sum := "8b0ea6f64a8d31131f015386ed4db464534295b7f9b3238a595b64f10e25cbd8", func := "raftsman/raftsmanlaw22.LexBack", spec := "lexBack", inPlace := ["internal/bytealg.IndexByteString"], apart := false }
def LexBackSaid : Prop := lexBackRow.holds Try.pinned (OpenSpec.ofChange lexBackSpec)

/-- ITS FALSE NEIGHBOUR: 'it returns false'. Refute it at one input. -/
def lexBackWrong : ChangeSpec := { name := "lexBack", fn := fun _ => fun
  | [d1, d2] => { results := [.lit (.bool false)], args := [d1, d2] }
  | _ => none }
def LexBackWrongFalsely : Prop := lexBackRow.holds Try.pinned (OpenSpec.ofChange lexBackWrong)

/-- 'raftsmanlaw22.LexHex': WHATEVER THE INPUT: true; the input reads as it did. -/
def lexHexSpec : ChangeSpec := { name := "lexHex", fn := fun _ => fun
  | [d1, d2] => { results := [.lit (.bool true)], args := [d1, d2] }
  | _ => none }
def lexHexRow : OpenClaim := { program := "ytoenhcdjahpdhaa", sum := "8b0ea6f64a8d31131f015386ed4db464534295b7f9b3238a595b64f10e25cbd8", func := "raftsman/raftsmanlaw22.LexHex", spec := "lexHex", inPlace := ["internal/bytealg.IndexByteString"], apart := false }
def LexHexSaid : Prop := lexHexRow.holds Try.pinned (OpenSpec.ofChange lexHexSpec)

/-- ITS FALSE NEIGHBOUR: 'it returns false'. Refute it at one input. -/
def lexHexWrong : ChangeSpec := { name := "lexHex", fn := fun _ => fun
  | [d1, d2] => { results := [.lit (.bool false)], args := [d1, d2] }
  | _ => none }
def LexHexWrongFalsely : Prop := lexHexRow.holds Try.pinned (OpenSpec.ofChange lexHexWrong)

/-- 'raftsmanlaw22.LexParts': WHATEVER THE INPUT: true; the input reads as it did. -/
def lexPartsSpec : ChangeSpec := { name := "lexParts", fn := fun _ => fun
  | [d1, d2] => { results := [.lit (.bool true)], args := [d1, d2] }
  | _ => none }
def lexPartsRow : OpenClaim := { program := "ytoenhcdjahpdhaa", sum := "8b0ea6f64a8d31131f015386ed4db464534295b7f9b3238a595b64f10e25cbd8", func := "raftsman/raftsmanlaw22.LexParts", spec := "lexParts", inPlace := ["internal/bytealg.IndexByteString"], apart := false }
def LexPartsSaid : Prop := lexPartsRow.holds Try.pinned (OpenSpec.ofChange lexPartsSpec)

/-- ITS FALSE NEIGHBOUR: 'it returns false'. Refute it at one input. -/
def lexPartsWrong : ChangeSpec := { name := "lexParts", fn := fun _ => fun
  | [d1, d2] => { results := [.lit (.bool false)], args := [d1, d2] }
  | _ => none }
def LexPartsWrongFalsely : Prop := lexPartsRow.holds Try.pinned (OpenSpec.ofChange lexPartsWrong)

/-- 'raftsmanlaw22.LexOrder': WHATEVER THE INPUT: true; the input reads as it did. -/
def lexOrderSpec : ChangeSpec := { name := "lexOrder", fn := fun _ => fun
  | [d1, d2] => { results := [.lit (.bool true)], args := [d1, d2] }
  | _ => none }
def lexOrderRow : OpenClaim := { program := "ytoenhcdjahpdhaa", sum := "8b0ea6f64a8d31131f015386ed4db464534295b7f9b3238a595b64f10e25cbd8", func := "raftsman/raftsmanlaw22.LexOrder", spec := "lexOrder", inPlace := ["internal/bytealg.IndexByteString"], apart := false }
def LexOrderSaid : Prop := lexOrderRow.holds Try.pinned (OpenSpec.ofChange lexOrderSpec)

/-- ITS FALSE NEIGHBOUR: 'it returns false'. Refute it at one input. -/
def lexOrderWrong : ChangeSpec := { name := "lexOrder", fn := fun _ => fun
  | [d1, d2] => { results := [.lit (.bool false)], args := [d1, d2] }
  | _ => none }
def LexOrderWrongFalsely : Prop := lexOrderRow.holds Try.pinned (OpenSpec.ofChange lexOrderWrong)

/-- 'raftsmanlaw22.LexOnly': WHATEVER THE INPUT: true; the input reads as it did. -/
def lexOnlySpec : ChangeSpec := { name := "lexOnly", fn := fun _ => fun
  | [d1, d2, d3] => { results := [.lit (.bool true)], args := [d1, d2, d3] }
  | _ => none }
def lexOnlyRow : OpenClaim := { program := "ytoenhcdjahpdhaa", sum := "8b0ea6f64a8d31131f015386ed4db464534295b7f9b3238a595b64f10e25cbd8", func := "raftsman/raftsmanlaw22.LexOnly", spec := "lexOnly", inPlace := ["internal/bytealg.IndexByteString"], apart := false }
def LexOnlySaid : Prop := lexOnlyRow.holds Try.pinned (OpenSpec.ofChange lexOnlySpec)

/-- ITS FALSE NEIGHBOUR: 'it returns false'. Refute it at one input. -/
def lexOnlyWrong : ChangeSpec := { name := "lexOnly", fn := fun _ => fun
  | [d1, d2, d3] => { results := [.lit (.bool false)], args := [d1, d2, d3] }
  | _ => none }
def LexOnlyWrongFalsely : Prop := lexOnlyRow.holds Try.pinned (OpenSpec.ofChange lexOnlyWrong)

/-- 'raftsmanlaw22.LexValues': WHATEVER THE INPUT: true; the input reads as it did. -/
def lexValuesSpec : ChangeSpec := { name := "lexValues", fn := fun _ => fun
  | [d] => { results := [.lit (.bool true)], args := [d] }
  | _ => none }
def lexValuesRow : OpenClaim := { program := "ytoenhcdjahpdhaa", sum := "8b0ea6f64a8d31131f015386ed4db464534295b7f9b3238a595b64f10e25cbd8", func := "raftsman/raftsmanlaw22.LexValues", spec := "lexValues", inPlace := ["internal/bytealg.IndexByteString"], apart := false }
def LexValuesSaid : Prop := lexValuesRow.holds Try.pinned (OpenSpec.ofChange lexValuesSpec)

/-- ITS FALSE NEIGHBOUR: 'it returns false'. Refute it at one input. -/
def lexValuesWrong : ChangeSpec := { name := "lexValues", fn := fun _ => fun
  | [d] => { results := [.lit (.bool false)], args := [d] }
  | _ => none }
def LexValuesWrongFalsely : Prop := lexValuesRow.holds Try.pinned (OpenSpec.ofChange lexValuesWrong)

/- THE SECOND FORM. 'bulk': how many values and letters a reading holds, each counted each time it is reached (what is shared counts as often as it is met; a slice's spare places count too). A statement '..UptoSaid' is the law's where the arguments, and the package variables that the reading takes, are together of bulk at most 1048576: NARROWER than '..Said'. Prove '..Said' where nothing that the law and all that it calls make is longer than what came in: it says more and counts as full. Else prove '..UptoSaid'. A law counts once. -/
mutual
def uptoBulk {H : Type} : DataW H → Nat
  | .lit (.string bytes) => bytes.length + 1
  | .lit _ => 1
  | .nil => 1
  | .ptr d => uptoBulk d + 1
  | .slice elems spare => uptoBulkAll elems + uptoBulkAll spare + 1
  | .agg parts => uptoBulkAll parts + 1
  | .iface _ d => uptoBulk d + 1
  | .map entries => uptoBulkEntries entries + 1
  | .held _ => 1
def uptoBulkAll {H : Type} : List (DataW H) → Nat
  | [] => 0
  | d :: r => uptoBulk d + uptoBulkAll r
def uptoBulkEntries {H : Type} : List (Lit × DataW H) → Nat
  | [] => 0
  | x :: r => uptoBulkEntry x + uptoBulkEntries r
def uptoBulkEntry {H : Type} : Lit × DataW H → Nat
  | (.string bytes, d) => bytes.length + uptoBulk d + 1
  | (_, d) => uptoBulk d + 1
 end
def uptoSmall : (H : Type) → List (DataW H) → Bool := fun _ ds => decide (uptoBulkAll ds ≤ 1048576)
def OpenSpec.upto (s : _root_.Go.ChangeSpec) : _root_.Go.OpenSpec := { _root_.Go.OpenSpec.ofChange s with cond := some uptoSmall }

/-- 'raftsmanlaw22.LexLines', WHERE WHAT IT READS IS OF BULK AT MOST 1048576: true; the input reads as it did. -/
def lexLinesUptoRow : OpenClaim := { program := "ytoenhcdjahpdhaa", sum := "8b0ea6f64a8d31131f015386ed4db464534295b7f9b3238a595b64f10e25cbd8", func := "raftsman/raftsmanlaw22.LexLines", spec := "lexLines", inPlace := ["internal/bytealg.IndexByteString"], apart := false, narrowed := true }
def LexLinesUptoSaid : Prop := lexLinesUptoRow.holds Try.pinned (OpenSpec.upto lexLinesSpec)

/-- 'raftsmanlaw22.LexTells', WHERE WHAT IT READS IS OF BULK AT MOST 1048576: true; the input reads as it did. -/
def lexTellsUptoRow : OpenClaim := { program := "ytoenhcdjahpdhaa", sum := "8b0ea6f64a8d31131f015386ed4db464534295b7f9b3238a595b64f10e25cbd8", func := "raftsman/raftsmanlaw22.LexTells", spec := "lexTells", inPlace := ["internal/bytealg.IndexByteString"], apart := false, narrowed := true }
def LexTellsUptoSaid : Prop := lexTellsUptoRow.holds Try.pinned (OpenSpec.upto lexTellsSpec)

/-- 'raftsmanlaw22.LexBack', WHERE WHAT IT READS IS OF BULK AT MOST 1048576: true; the input reads as it did. -/
def lexBackUptoRow : OpenClaim := { program := "ytoenhcdjahpdhaa", sum := "8b0ea6f64a8d31131f015386ed4db464534295b7f9b3238a595b64f10e25cbd8", func := "raftsman/raftsmanlaw22.LexBack", spec := "lexBack", inPlace := ["internal/bytealg.IndexByteString"], apart := false, narrowed := true }
def LexBackUptoSaid : Prop := lexBackUptoRow.holds Try.pinned (OpenSpec.upto lexBackSpec)

/-- 'raftsmanlaw22.LexHex', WHERE WHAT IT READS IS OF BULK AT MOST 1048576: true; the input reads as it did. -/
def lexHexUptoRow : OpenClaim := { program := "ytoenhcdjahpdhaa", sum := "8b0ea6f64a8d31131f015386ed4db464534295b7f9b3238a595b64f10e25cbd8", func := "raftsman/raftsmanlaw22.LexHex", spec := "lexHex", inPlace := ["internal/bytealg.IndexByteString"], apart := false, narrowed := true }
def LexHexUptoSaid : Prop := lexHexUptoRow.holds Try.pinned (OpenSpec.upto lexHexSpec)

/-- 'raftsmanlaw22.LexParts', WHERE WHAT IT READS IS OF BULK AT MOST 1048576: true; the input reads as it did. -/
def lexPartsUptoRow : OpenClaim := { program := "ytoenhcdjahpdhaa", sum := "8b0ea6f64a8d31131f015386ed4db464534295b7f9b3238a595b64f10e25cbd8", func := "raftsman/raftsmanlaw22.LexParts", spec := "lexParts", inPlace := ["internal/bytealg.IndexByteString"], apart := false, narrowed := true }
def LexPartsUptoSaid : Prop := lexPartsUptoRow.holds Try.pinned (OpenSpec.upto lexPartsSpec)

/-- 'raftsmanlaw22.LexOrder', WHERE WHAT IT READS IS OF BULK AT MOST 1048576: true; the input reads as it did. -/
def lexOrderUptoRow : OpenClaim := { program := "ytoenhcdjahpdhaa", sum := "8b0ea6f64a8d31131f015386ed4db464534295b7f9b3238a595b64f10e25cbd8", func := "raftsman/raftsmanlaw22.LexOrder", spec := "lexOrder", inPlace := ["internal/bytealg.IndexByteString"], apart := false, narrowed := true }
def LexOrderUptoSaid : Prop := lexOrderUptoRow.holds Try.pinned (OpenSpec.upto lexOrderSpec)

/-- 'raftsmanlaw22.LexOnly', WHERE WHAT IT READS IS OF BULK AT MOST 1048576: true; the input reads as it did. -/
def lexOnlyUptoRow : OpenClaim := { program := "ytoenhcdjahpdhaa", sum := "8b0ea6f64a8d31131f015386ed4db464534295b7f9b3238a595b64f10e25cbd8", func := "raftsman/raftsmanlaw22.LexOnly", spec := "lexOnly", inPlace := ["internal/bytealg.IndexByteString"], apart := false, narrowed := true }
def LexOnlyUptoSaid : Prop := lexOnlyUptoRow.holds Try.pinned (OpenSpec.upto lexOnlySpec)

/-- 'raftsmanlaw22.LexValues', WHERE WHAT IT READS IS OF BULK AT MOST 1048576: true; the input reads as it did. -/
def lexValuesUptoRow : OpenClaim := { program := "ytoenhcdjahpdhaa", sum := "8b0ea6f64a8d31131f015386ed4db464534295b7f9b3238a595b64f10e25cbd8", func := "raftsman/raftsmanlaw22.LexValues", spec := "lexValues", inPlace := ["internal/bytealg.IndexByteString"], apart := false, narrowed := true }
def LexValuesUptoSaid : Prop := lexValuesUptoRow.holds Try.pinned (OpenSpec.upto lexValuesSpec)

end Rows
end Go.Proofs.Ytoenhcdjahpdhaa
