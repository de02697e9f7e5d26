/-
  DERIVED. GIVEN WITH THE SEED: THE CARDS: each row of YtmpakjgbbjkacaaDoorRows.lean that lists a variable, with what it lists TIED to the program's text (the seventh form; the later family's looks); each row that meets fmt, with fmt's text TOLD by the authors' own Lean function (tested against real Go, not proved from fmt's source: count such statements apart). THE CARD IS WHAT COUNTS. Prove the row's statement (the work); the ties are given (YtmpakjgbbjkacaaDoorTie.lean); close each card by the builder's one call (the guide's Derived/Test/ToyasCard.lean, 'card_holds'). Laid BY PROGRAM, IN A SANDBOX (cutbox-door.mjs). By AI agents, Wed Nov 11 2026. No macro, syntax, notation, axiom, sorry.
-/
import Derived.Test.YtmpakjgbbjkacaaDoorRows
import GoSem.ClaimSeven
namespace Go.Proofs.YtmpakjgbbjkacaaDoor
namespace Rows

/-- THE TIED CARD OF 'laws.FnExactShowInc'. -/
def fnExactShowIncCard : Claim7 := { stood := { row := fnExactShowIncRow, standIns := [], harness := (true, "b17255d9fee540fc961d043a95146568bd3fc7aa5240263ea34d4a0680f500d0"), looks := true }, kinds := [], alts := [], laidByText := true, laidKinds := [.data, .data, .data], laidTests := true, laidLooks := .later }
def FnExactShowIncCardSaid : Prop := Claim7.holds Tryd.pinned (.plain (OpenSpec.ofChange fnExactShowIncSpec)) fnExactShowIncCard

/-- THE TIED CARD OF 'laws.FnExactReadInc'. -/
def fnExactReadIncCard : Claim7 := { stood := { row := fnExactReadIncRow, standIns := [], harness := (true, "b17255d9fee540fc961d043a95146568bd3fc7aa5240263ea34d4a0680f500d0"), looks := true }, kinds := [], alts := [], laidByText := true, laidKinds := [.data, .data, .data, .data, .sentinel, .sentinel, .pinned], laidTests := true, laidLooks := .later }
def FnExactReadIncCardSaid : Prop := Claim7.holds Tryd.pinned (.plain (OpenSpec.ofChange fnExactReadIncSpec)) fnExactReadIncCard

/-- THE TIED CARD OF 'laws.FnIncText'. -/
def fnIncTextCard : Claim7 := { stood := { row := fnIncTextRow, standIns := [], harness := (true, "b17255d9fee540fc961d043a95146568bd3fc7aa5240263ea34d4a0680f500d0"), looks := true }, kinds := [], alts := [], laidByText := true, laidKinds := [.data, .data, .data, .data, .sentinel, .sentinel, .pinned], laidTests := true, laidLooks := .later }
def FnIncTextCardSaid : Prop := Claim7.holds Tryd.pinned (.plain (OpenSpec.ofChange fnIncTextSpec)) fnIncTextCard

/-- THE SECOND FORM's CARD OF 'laws.FnExactShowInc'. -/
def fnExactShowIncUptoCard : Claim7 := { stood := { row := fnExactShowIncUptoRow, standIns := [], harness := (true, "b17255d9fee540fc961d043a95146568bd3fc7aa5240263ea34d4a0680f500d0"), looks := true }, kinds := [], alts := [], laidByText := true, laidKinds := [.data, .data, .data], laidTests := true, laidLooks := .later }
def FnExactShowIncUptoCardSaid : Prop := Claim7.holds Tryd.pinned (.plain (OpenSpec.upto fnExactShowIncSpec)) fnExactShowIncUptoCard

/-- THE SECOND FORM's CARD OF 'laws.FnExactReadInc'. -/
def fnExactReadIncUptoCard : Claim7 := { stood := { row := fnExactReadIncUptoRow, standIns := [], harness := (true, "b17255d9fee540fc961d043a95146568bd3fc7aa5240263ea34d4a0680f500d0"), looks := true }, kinds := [], alts := [], laidByText := true, laidKinds := [.data, .data, .data, .data, .sentinel, .sentinel, .pinned], laidTests := true, laidLooks := .later }
def FnExactReadIncUptoCardSaid : Prop := Claim7.holds Tryd.pinned (.plain (OpenSpec.upto fnExactReadIncSpec)) fnExactReadIncUptoCard

/-- THE SECOND FORM's CARD OF 'laws.FnIncText'. -/
def fnIncTextUptoCard : Claim7 := { stood := { row := fnIncTextUptoRow, standIns := [], harness := (true, "b17255d9fee540fc961d043a95146568bd3fc7aa5240263ea34d4a0680f500d0"), looks := true }, kinds := [], alts := [], laidByText := true, laidKinds := [.data, .data, .data, .data, .sentinel, .sentinel, .pinned], laidTests := true, laidLooks := .later }
def FnIncTextUptoCardSaid : Prop := Claim7.holds Tryd.pinned (.plain (OpenSpec.upto fnIncTextSpec)) fnIncTextUptoCard
end Rows
end Go.Proofs.YtmpakjgbbjkacaaDoor
