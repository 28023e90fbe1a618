/-
  DERIVED. GIVEN WITH THE SEED: THE CARDS: each row of YtlpfhodieopmhaaGreatDoorRows.lean that lists a variable, with what it lists TIED to the program's text (the seventh form; the later family's looks); each row that meets fmt, with fmt's text TOLD by the authors' own Lean function (tested against real Go, not proved from fmt's source: count such statements apart). THE CARD IS WHAT COUNTS. Prove the row's statement (the work); the ties are given (YtlpfhodieopmhaaGreatDoorTie.lean); close each card by the builder's one call (the guide's Derived/Test/ToyasCard.lean, 'card_holds'). Laid BY PROGRAM, IN A SANDBOX (cutbox-door.mjs). By AI agents, Wed Nov 11 2026. No macro, syntax, notation, axiom, sorry.
-/
import Derived.Test.YtlpfhodieopmhaaGreatDoorRows
import GoSem.ClaimSeven
namespace Go.Proofs.YtlpfhodieopmhaaGreatDoor
namespace Rows

/-- THE TIED CARD OF 'jetsamlaw16.OuterBounds'. -/
def outerBoundsCard : Claim7 := { stood := { row := outerBoundsRow, standIns := [], harness := (true, "e1b64e7c1d159d81c996de7a22df3802a584b1a431e80c1c3e7d89ce704907bb"), looks := true }, kinds := [], alts := [], laidByText := true, laidKinds := [.data, .data, .data, .data, .sentinel, .sentinel, .data, .data, .data, .pinned], laidTests := true, laidLooks := .later }
def OuterBoundsCardSaid : Prop := Claim7.holds Tryz.pinned (.plain (OpenSpec.ofChange outerBoundsSpec)) outerBoundsCard

/-- THE TIED CARD OF 'jetsamlaw16.OuterTags'. -/
def outerTagsCard : Claim7 := { stood := { row := outerTagsRow, standIns := [], harness := (true, "e1b64e7c1d159d81c996de7a22df3802a584b1a431e80c1c3e7d89ce704907bb"), looks := true }, kinds := [], alts := [], laidByText := true, laidKinds := [.data, .data, .data, .data, .sentinel, .sentinel, .data, .data, .data, .pinned], laidTests := true, laidLooks := .later }
def OuterTagsCardSaid : Prop := Claim7.holds Tryz.pinned (.plain (OpenSpec.ofChange outerTagsSpec)) outerTagsCard

/-- THE TIED CARD OF 'jetsamlaw16.OuterRules'. -/
def outerRulesCard : Claim7 := { stood := { row := outerRulesRow, standIns := [], harness := (true, "e1b64e7c1d159d81c996de7a22df3802a584b1a431e80c1c3e7d89ce704907bb"), looks := true }, kinds := [], alts := [], laidByText := true, laidKinds := [.data, .data, .data, .data, .sentinel, .sentinel, .data, .data, .data, .pinned], laidTests := true, laidLooks := .later }
def OuterRulesCardSaid : Prop := Claim7.holds Tryz.pinned (.plain (OpenSpec.ofChange outerRulesSpec)) outerRulesCard

/-- THE TIED CARD OF 'jetsamlaw16.OuterNots'. -/
def outerNotsCard : Claim7 := { stood := { row := outerNotsRow, standIns := [], harness := (true, "e1b64e7c1d159d81c996de7a22df3802a584b1a431e80c1c3e7d89ce704907bb"), looks := true }, kinds := [], alts := [], laidByText := true, laidKinds := [.data, .data, .data, .data, .sentinel, .sentinel, .data, .data, .data, .pinned], laidTests := true, laidLooks := .later }
def OuterNotsCardSaid : Prop := Claim7.holds Tryz.pinned (.plain (OpenSpec.ofChange outerNotsSpec)) outerNotsCard

/-- THE TIED CARD OF 'jetsamlaw16.OuterWaits'. -/
def outerWaitsCard : Claim7 := { stood := { row := outerWaitsRow, standIns := [], harness := (true, "e1b64e7c1d159d81c996de7a22df3802a584b1a431e80c1c3e7d89ce704907bb"), looks := true }, kinds := [], alts := [], laidByText := true, laidKinds := [.data, .data, .data, .data, .sentinel, .sentinel, .data, .data, .data, .pinned], laidTests := true, laidLooks := .later }
def OuterWaitsCardSaid : Prop := Claim7.holds Tryz.pinned (.plain (OpenSpec.ofChange outerWaitsSpec)) outerWaitsCard

/-- THE SECOND FORM's CARD OF 'jetsamlaw16.OuterBounds'. -/
def outerBoundsUptoCard : Claim7 := { stood := { row := outerBoundsUptoRow, standIns := [], harness := (true, "e1b64e7c1d159d81c996de7a22df3802a584b1a431e80c1c3e7d89ce704907bb"), looks := true }, kinds := [], alts := [], laidByText := true, laidKinds := [.data, .data, .data, .data, .sentinel, .sentinel, .data, .data, .data, .pinned], laidTests := true, laidLooks := .later }
def OuterBoundsUptoCardSaid : Prop := Claim7.holds Tryz.pinned (.plain (OpenSpec.upto outerBoundsSpec)) outerBoundsUptoCard

/-- THE SECOND FORM's CARD OF 'jetsamlaw16.OuterTags'. -/
def outerTagsUptoCard : Claim7 := { stood := { row := outerTagsUptoRow, standIns := [], harness := (true, "e1b64e7c1d159d81c996de7a22df3802a584b1a431e80c1c3e7d89ce704907bb"), looks := true }, kinds := [], alts := [], laidByText := true, laidKinds := [.data, .data, .data, .data, .sentinel, .sentinel, .data, .data, .data, .pinned], laidTests := true, laidLooks := .later }
def OuterTagsUptoCardSaid : Prop := Claim7.holds Tryz.pinned (.plain (OpenSpec.upto outerTagsSpec)) outerTagsUptoCard

/-- THE SECOND FORM's CARD OF 'jetsamlaw16.OuterRules'. -/
def outerRulesUptoCard : Claim7 := { stood := { row := outerRulesUptoRow, standIns := [], harness := (true, "e1b64e7c1d159d81c996de7a22df3802a584b1a431e80c1c3e7d89ce704907bb"), looks := true }, kinds := [], alts := [], laidByText := true, laidKinds := [.data, .data, .data, .data, .sentinel, .sentinel, .data, .data, .data, .pinned], laidTests := true, laidLooks := .later }
def OuterRulesUptoCardSaid : Prop := Claim7.holds Tryz.pinned (.plain (OpenSpec.upto outerRulesSpec)) outerRulesUptoCard

/-- THE SECOND FORM's CARD OF 'jetsamlaw16.OuterNots'. -/
def outerNotsUptoCard : Claim7 := { stood := { row := outerNotsUptoRow, standIns := [], harness := (true, "e1b64e7c1d159d81c996de7a22df3802a584b1a431e80c1c3e7d89ce704907bb"), looks := true }, kinds := [], alts := [], laidByText := true, laidKinds := [.data, .data, .data, .data, .sentinel, .sentinel, .data, .data, .data, .pinned], laidTests := true, laidLooks := .later }
def OuterNotsUptoCardSaid : Prop := Claim7.holds Tryz.pinned (.plain (OpenSpec.upto outerNotsSpec)) outerNotsUptoCard

/-- THE SECOND FORM's CARD OF 'jetsamlaw16.OuterWaits'. -/
def outerWaitsUptoCard : Claim7 := { stood := { row := outerWaitsUptoRow, standIns := [], harness := (true, "e1b64e7c1d159d81c996de7a22df3802a584b1a431e80c1c3e7d89ce704907bb"), looks := true }, kinds := [], alts := [], laidByText := true, laidKinds := [.data, .data, .data, .data, .sentinel, .sentinel, .data, .data, .data, .pinned], laidTests := true, laidLooks := .later }
def OuterWaitsUptoCardSaid : Prop := Claim7.holds Tryz.pinned (.plain (OpenSpec.upto outerWaitsSpec)) outerWaitsUptoCard
end Rows
end Go.Proofs.YtlpfhodieopmhaaGreatDoor
