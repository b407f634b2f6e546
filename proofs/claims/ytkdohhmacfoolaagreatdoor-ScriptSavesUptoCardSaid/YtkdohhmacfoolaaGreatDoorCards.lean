/-
  DERIVED. GIVEN WITH THE SEED: THE CARDS: each row of YtkdohhmacfoolaaGreatDoorRows.lean that lists a variable, with what it lists TIED to the program's text (the seventh form; the later family's looks); each row that meets fmt, with fmt's text TOLD by the authors' own Lean function (tested against real Go, not proved from fmt's source: count such statements apart). THE CARD IS WHAT COUNTS. Prove the row's statement (the work); the ties are given (YtkdohhmacfoolaaGreatDoorTie.lean); close each card by the builder's one call (the guide's Derived/Test/ToyasCard.lean, 'card_holds'). Laid BY PROGRAM, IN A SANDBOX (cutbox-door.mjs). By AI agents, Wed Nov 11 2026. No macro, syntax, notation, axiom, sorry.
-/
import Derived.Test.YtkdohhmacfoolaaGreatDoorRows
import GoSem.ClaimSeven
namespace Go.Proofs.YtkdohhmacfoolaaGreatDoor
namespace Rows

/-- THE TIED CARD OF 'raftsmantop.TopRestored'. -/
def topRestoredCard : Claim7 := { stood := { row := topRestoredRow, standIns := [], harness := (true, "fd0dfd5d6bd04c70ed0e429695eef008e751510e254435247b690a8fc57b8f5d"), looks := true }, kinds := [], alts := [], laidByText := true, laidKinds := [.data, .data, .data], laidTests := true, laidLooks := .later }
def TopRestoredCardSaid : Prop := Claim7.holds Tryz.pinned (.plain (OpenSpec.ofChange topRestoredSpec)) topRestoredCard

/-- THE TIED CARD OF 'raftsmantop.TopOneSided'. -/
def topOneSidedCard : Claim7 := { stood := { row := topOneSidedRow, standIns := [], harness := (true, "fd0dfd5d6bd04c70ed0e429695eef008e751510e254435247b690a8fc57b8f5d"), looks := true }, kinds := [], alts := [], laidByText := true, laidKinds := [.data, .data, .data], laidTests := true, laidLooks := .later }
def TopOneSidedCardSaid : Prop := Claim7.holds Tryz.pinned (.plain (OpenSpec.ofChange topOneSidedSpec)) topOneSidedCard

/-- THE TIED CARD OF 'raftsmanlaw23.ScriptLeaves'. -/
def scriptLeavesCard : Claim7 := { stood := { row := scriptLeavesRow, standIns := [], harness := (true, "fd0dfd5d6bd04c70ed0e429695eef008e751510e254435247b690a8fc57b8f5d"), looks := true }, kinds := [], alts := [], laidByText := true, laidKinds := [.data, .data, .data], laidTests := true, laidLooks := .later }
def ScriptLeavesCardSaid : Prop := Claim7.holds Tryz.pinned (.plain (OpenSpec.ofChange scriptLeavesSpec)) scriptLeavesCard

/-- THE TIED CARD OF 'raftsmanlaw23.ScriptSaves'. -/
def scriptSavesCard : Claim7 := { stood := { row := scriptSavesRow, standIns := [], harness := (true, "fd0dfd5d6bd04c70ed0e429695eef008e751510e254435247b690a8fc57b8f5d"), looks := true }, kinds := [], alts := [], laidByText := true, laidKinds := [.data, .data, .data], laidTests := true, laidLooks := .later }
def ScriptSavesCardSaid : Prop := Claim7.holds Tryz.pinned (.plain (OpenSpec.ofChange scriptSavesSpec)) scriptSavesCard

/-- THE TIED CARD OF 'raftsmanlaw23.ScriptAsks'. -/
def scriptAsksCard : Claim7 := { stood := { row := scriptAsksRow, standIns := [], harness := (true, "fd0dfd5d6bd04c70ed0e429695eef008e751510e254435247b690a8fc57b8f5d"), looks := true }, kinds := [], alts := [], laidByText := true, laidKinds := [.data, .data, .data], laidTests := true, laidLooks := .later }
def ScriptAsksCardSaid : Prop := Claim7.holds Tryz.pinned (.plain (OpenSpec.ofChange scriptAsksSpec)) scriptAsksCard

/-- THE TIED CARD OF 'raftsmanlaw23.ScriptPlain'. -/
def scriptPlainCard : Claim7 := { stood := { row := scriptPlainRow, standIns := [], harness := (true, "fd0dfd5d6bd04c70ed0e429695eef008e751510e254435247b690a8fc57b8f5d"), looks := true }, kinds := [], alts := [], laidByText := true, laidKinds := [.data, .data, .data], laidTests := true, laidLooks := .later }
def ScriptPlainCardSaid : Prop := Claim7.holds Tryz.pinned (.plain (OpenSpec.ofChange scriptPlainSpec)) scriptPlainCard

/-- THE SECOND FORM's CARD OF 'raftsmantop.TopRestored'. -/
def topRestoredUptoCard : Claim7 := { stood := { row := topRestoredUptoRow, standIns := [], harness := (true, "fd0dfd5d6bd04c70ed0e429695eef008e751510e254435247b690a8fc57b8f5d"), looks := true }, kinds := [], alts := [], laidByText := true, laidKinds := [.data, .data, .data], laidTests := true, laidLooks := .later }
def TopRestoredUptoCardSaid : Prop := Claim7.holds Tryz.pinned (.plain (OpenSpec.upto topRestoredSpec)) topRestoredUptoCard

/-- THE SECOND FORM's CARD OF 'raftsmantop.TopOneSided'. -/
def topOneSidedUptoCard : Claim7 := { stood := { row := topOneSidedUptoRow, standIns := [], harness := (true, "fd0dfd5d6bd04c70ed0e429695eef008e751510e254435247b690a8fc57b8f5d"), looks := true }, kinds := [], alts := [], laidByText := true, laidKinds := [.data, .data, .data], laidTests := true, laidLooks := .later }
def TopOneSidedUptoCardSaid : Prop := Claim7.holds Tryz.pinned (.plain (OpenSpec.upto topOneSidedSpec)) topOneSidedUptoCard

/-- THE SECOND FORM's CARD OF 'raftsmanlaw23.ScriptLeaves'. -/
def scriptLeavesUptoCard : Claim7 := { stood := { row := scriptLeavesUptoRow, standIns := [], harness := (true, "fd0dfd5d6bd04c70ed0e429695eef008e751510e254435247b690a8fc57b8f5d"), looks := true }, kinds := [], alts := [], laidByText := true, laidKinds := [.data, .data, .data], laidTests := true, laidLooks := .later }
def ScriptLeavesUptoCardSaid : Prop := Claim7.holds Tryz.pinned (.plain (OpenSpec.upto scriptLeavesSpec)) scriptLeavesUptoCard

/-- THE SECOND FORM's CARD OF 'raftsmanlaw23.ScriptSaves'. -/
def scriptSavesUptoCard : Claim7 := { stood := { row := scriptSavesUptoRow, standIns := [], harness := (true, "fd0dfd5d6bd04c70ed0e429695eef008e751510e254435247b690a8fc57b8f5d"), looks := true }, kinds := [], alts := [], laidByText := true, laidKinds := [.data, .data, .data], laidTests := true, laidLooks := .later }
def ScriptSavesUptoCardSaid : Prop := Claim7.holds Tryz.pinned (.plain (OpenSpec.upto scriptSavesSpec)) scriptSavesUptoCard

/-- THE SECOND FORM's CARD OF 'raftsmanlaw23.ScriptAsks'. -/
def scriptAsksUptoCard : Claim7 := { stood := { row := scriptAsksUptoRow, standIns := [], harness := (true, "fd0dfd5d6bd04c70ed0e429695eef008e751510e254435247b690a8fc57b8f5d"), looks := true }, kinds := [], alts := [], laidByText := true, laidKinds := [.data, .data, .data], laidTests := true, laidLooks := .later }
def ScriptAsksUptoCardSaid : Prop := Claim7.holds Tryz.pinned (.plain (OpenSpec.upto scriptAsksSpec)) scriptAsksUptoCard

/-- THE SECOND FORM's CARD OF 'raftsmanlaw23.ScriptPlain'. -/
def scriptPlainUptoCard : Claim7 := { stood := { row := scriptPlainUptoRow, standIns := [], harness := (true, "fd0dfd5d6bd04c70ed0e429695eef008e751510e254435247b690a8fc57b8f5d"), looks := true }, kinds := [], alts := [], laidByText := true, laidKinds := [.data, .data, .data], laidTests := true, laidLooks := .later }
def ScriptPlainUptoCardSaid : Prop := Claim7.holds Tryz.pinned (.plain (OpenSpec.upto scriptPlainSpec)) scriptPlainUptoCard
end Rows
end Go.Proofs.YtkdohhmacfoolaaGreatDoor
