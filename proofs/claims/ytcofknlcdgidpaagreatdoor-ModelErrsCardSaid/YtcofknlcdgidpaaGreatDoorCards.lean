/-
  DERIVED. GIVEN WITH THE SEED: THE CARDS: each row of YtcofknlcdgidpaaGreatDoorRows.lean that lists a variable, with what it lists TIED to the program's text (the seventh form; the later family's looks); each row that meets fmt, with fmt's text TOLD by the authors' own Lean function (tested against real Go, not proved from fmt's source: count such statements apart). THE CARD IS WHAT COUNTS. Prove the row's statement (the work); the ties are given (YtcofknlcdgidpaaGreatDoorTie.lean); close each card by the builder's one call (the guide's Derived/Test/ToyasCard.lean, 'card_holds'). Laid BY PROGRAM, IN A SANDBOX (cutbox-door.mjs). By AI agents, Wed Nov 11 2026. No macro, syntax, notation, axiom, sorry.
-/
import Derived.Test.YtcofknlcdgidpaaGreatDoorRows
import GoSem.ClaimSeven
namespace Go.Proofs.YtcofknlcdgidpaaGreatDoor
namespace Rows

/-- THE TIED CARD OF 'postroomlaw20.ModelErrs'. -/
def modelErrsCard : Claim7 := { stood := { row := modelErrsRow, standIns := [], harness := (true, "efc60ed77193fe23292e9602cafaf3c0a8b8ba52cb30f3a063d95c67f499a05a"), looks := true }, kinds := [], alts := [], laidByText := true, laidKinds := [.data, .data, .pinned], laidTests := true, laidLooks := .later }
def ModelErrsCardSaid : Prop := Claim7.holds Tryz.pinned (.plain (OpenSpec.ofChange modelErrsSpec)) modelErrsCard

/-- THE TIED CARD OF 'postroomlaw20.ModelRoom'. -/
def modelRoomCard : Claim7 := { stood := { row := modelRoomRow, standIns := [], harness := (true, "efc60ed77193fe23292e9602cafaf3c0a8b8ba52cb30f3a063d95c67f499a05a"), looks := true }, kinds := [], alts := [], laidByText := true, laidKinds := [.data, .data, .pinned], laidTests := true, laidLooks := .later }
def ModelRoomCardSaid : Prop := Claim7.holds Tryz.pinned (.plain (OpenSpec.ofChange modelRoomSpec)) modelRoomCard

/-- THE TIED CARD OF 'postroomlaw20.ModelQueries'. -/
def modelQueriesCard : Claim7 := { stood := { row := modelQueriesRow, standIns := [], harness := (true, "efc60ed77193fe23292e9602cafaf3c0a8b8ba52cb30f3a063d95c67f499a05a"), looks := true }, kinds := [], alts := [], laidByText := true, laidKinds := [.data, .data, .pinned], laidTests := true, laidLooks := .later }
def ModelQueriesCardSaid : Prop := Claim7.holds Tryz.pinned (.plain (OpenSpec.ofChange modelQueriesSpec)) modelQueriesCard

/-- THE SECOND FORM's CARD OF 'postroomlaw20.ModelErrs'. -/
def modelErrsUptoCard : Claim7 := { stood := { row := modelErrsUptoRow, standIns := [], harness := (true, "efc60ed77193fe23292e9602cafaf3c0a8b8ba52cb30f3a063d95c67f499a05a"), looks := true }, kinds := [], alts := [], laidByText := true, laidKinds := [.data, .data, .pinned], laidTests := true, laidLooks := .later }
def ModelErrsUptoCardSaid : Prop := Claim7.holds Tryz.pinned (.plain (OpenSpec.upto modelErrsSpec)) modelErrsUptoCard

/-- THE SECOND FORM's CARD OF 'postroomlaw20.ModelRoom'. -/
def modelRoomUptoCard : Claim7 := { stood := { row := modelRoomUptoRow, standIns := [], harness := (true, "efc60ed77193fe23292e9602cafaf3c0a8b8ba52cb30f3a063d95c67f499a05a"), looks := true }, kinds := [], alts := [], laidByText := true, laidKinds := [.data, .data, .pinned], laidTests := true, laidLooks := .later }
def ModelRoomUptoCardSaid : Prop := Claim7.holds Tryz.pinned (.plain (OpenSpec.upto modelRoomSpec)) modelRoomUptoCard

/-- THE SECOND FORM's CARD OF 'postroomlaw20.ModelQueries'. -/
def modelQueriesUptoCard : Claim7 := { stood := { row := modelQueriesUptoRow, standIns := [], harness := (true, "efc60ed77193fe23292e9602cafaf3c0a8b8ba52cb30f3a063d95c67f499a05a"), looks := true }, kinds := [], alts := [], laidByText := true, laidKinds := [.data, .data, .pinned], laidTests := true, laidLooks := .later }
def ModelQueriesUptoCardSaid : Prop := Claim7.holds Tryz.pinned (.plain (OpenSpec.upto modelQueriesSpec)) modelQueriesUptoCard
end Rows
end Go.Proofs.YtcofknlcdgidpaaGreatDoor
