/-
  DERIVED. GIVEN WITH THE SEED: THE CARDS: each row of YthnafgffanlnfaaDoorRows.lean that lists a variable, with what it lists TIED to the program's text (the seventh form; the later family's looks); each row that meets fmt, with fmt's text TOLD by the authors' own Lean function (tested against real Go, not proved from fmt's source: count such statements apart). THE CARD IS WHAT COUNTS. Prove the row's statement (the work); the ties are given (YthnafgffanlnfaaDoorTie.lean); close each card by the builder's one call (the guide's Derived/Test/ToyasCard.lean, 'card_holds'). Laid BY PROGRAM, IN A SANDBOX (cutbox-door.mjs). By AI agents, Wed Nov 11 2026. No macro, syntax, notation, axiom, sorry.
-/
import Derived.Test.YthnafgffanlnfaaDoorRows
import GoSem.ClaimSeven
namespace Go.Proofs.YthnafgffanlnfaaDoor
namespace Rows

/-- THE TIED CARD OF 'vesperlaw14.AsmObjects'. -/
def asmObjectsCard : Claim7 := { stood := { row := asmObjectsRow, standIns := [], harness := (true, "5a1861b36458e26da74b70a09145f57b13b2092bf6dc5c3a6237f8aabc4f9138"), looks := true }, kinds := [], alts := [], laidByText := true, laidKinds := [.data, .data, .data, .data, .data, .data, .data, .pinned], laidTests := true, laidLooks := .later }
def AsmObjectsCardSaid : Prop := Claim7.holds Tryd.pinned (.plain (OpenSpec.ofChange asmObjectsSpec)) asmObjectsCard

/-- THE TIED CARD OF 'vesperlaw13.SourceNumbers'. -/
def sourceNumbersCard : Claim7 := { stood := { row := sourceNumbersRow, standIns := [], harness := (true, "5a1861b36458e26da74b70a09145f57b13b2092bf6dc5c3a6237f8aabc4f9138"), looks := true }, kinds := [], alts := [], laidByText := true, laidKinds := [.data, .data, .data, .data, .data, .data, .data, .data, .pinned], laidTests := true, laidLooks := .later }
def SourceNumbersCardSaid : Prop := Claim7.holds Tryd.pinned (.plain (OpenSpec.ofChange sourceNumbersSpec)) sourceNumbersCard

/-- THE TIED CARD OF 'vesperlaw13.SourceChecks'. -/
def sourceChecksCard : Claim7 := { stood := { row := sourceChecksRow, standIns := [], harness := (true, "5a1861b36458e26da74b70a09145f57b13b2092bf6dc5c3a6237f8aabc4f9138"), looks := true }, kinds := [], alts := [], laidByText := true, laidKinds := [.data, .data, .data, .data, .data, .data, .data, .data, .pinned], laidTests := true, laidLooks := .later }
def SourceChecksCardSaid : Prop := Claim7.holds Tryd.pinned (.plain (OpenSpec.ofChange sourceChecksSpec)) sourceChecksCard

/-- THE TIED CARD OF 'vesperlaw13.SourceBack'. -/
def sourceBackCard : Claim7 := { stood := { row := sourceBackRow, standIns := [], harness := (true, "5a1861b36458e26da74b70a09145f57b13b2092bf6dc5c3a6237f8aabc4f9138"), looks := true }, kinds := [], alts := [], laidByText := true, laidKinds := [.data, .data, .data, .data, .data, .data, .data, .data, .pinned], laidTests := true, laidLooks := .later }
def SourceBackCardSaid : Prop := Claim7.holds Tryd.pinned (.plain (OpenSpec.ofChange sourceBackSpec)) sourceBackCard

/-- THE TIED CARD OF 'vesperlaw13.SourceRoom'. -/
def sourceRoomCard : Claim7 := { stood := { row := sourceRoomRow, standIns := [], harness := (true, "5a1861b36458e26da74b70a09145f57b13b2092bf6dc5c3a6237f8aabc4f9138"), looks := true }, kinds := [], alts := [], laidByText := true, laidKinds := [.data, .data, .data, .data, .data, .data, .data, .data, .pinned], laidTests := true, laidLooks := .later }
def SourceRoomCardSaid : Prop := Claim7.holds Tryd.pinned (.plain (OpenSpec.ofChange sourceRoomSpec)) sourceRoomCard

/-- THE TIED CARD OF 'vesperlaw13.SourceSizes'. -/
def sourceSizesCard : Claim7 := { stood := { row := sourceSizesRow, standIns := [], harness := (true, "5a1861b36458e26da74b70a09145f57b13b2092bf6dc5c3a6237f8aabc4f9138"), looks := true }, kinds := [], alts := [], laidByText := true, laidKinds := [.data, .data, .data, .data, .data, .data, .data, .data, .pinned], laidTests := true, laidLooks := .later }
def SourceSizesCardSaid : Prop := Claim7.holds Tryd.pinned (.plain (OpenSpec.ofChange sourceSizesSpec)) sourceSizesCard

/-- THE TIED CARD OF 'vesperlaw07.ScriptAll'. -/
def scriptAllCard : Claim7 := { stood := { row := scriptAllRow, standIns := [], harness := (true, "5a1861b36458e26da74b70a09145f57b13b2092bf6dc5c3a6237f8aabc4f9138"), looks := true }, kinds := [], alts := [], laidByText := true, laidKinds := [.data, .data, .data, .data, .sentinel, .sentinel, .pinned], laidTests := true, laidLooks := .later }
def ScriptAllCardSaid : Prop := Claim7.holds Tryd.pinned (.plain (OpenSpec.ofChange scriptAllSpec)) scriptAllCard

/-- THE SECOND FORM's CARD OF 'vesperlaw14.AsmObjects'. -/
def asmObjectsUptoCard : Claim7 := { stood := { row := asmObjectsUptoRow, standIns := [], harness := (true, "5a1861b36458e26da74b70a09145f57b13b2092bf6dc5c3a6237f8aabc4f9138"), looks := true }, kinds := [], alts := [], laidByText := true, laidKinds := [.data, .data, .data, .data, .data, .data, .data, .pinned], laidTests := true, laidLooks := .later }
def AsmObjectsUptoCardSaid : Prop := Claim7.holds Tryd.pinned (.plain (OpenSpec.upto asmObjectsSpec)) asmObjectsUptoCard

/-- THE SECOND FORM's CARD OF 'vesperlaw13.SourceNumbers'. -/
def sourceNumbersUptoCard : Claim7 := { stood := { row := sourceNumbersUptoRow, standIns := [], harness := (true, "5a1861b36458e26da74b70a09145f57b13b2092bf6dc5c3a6237f8aabc4f9138"), looks := true }, kinds := [], alts := [], laidByText := true, laidKinds := [.data, .data, .data, .data, .data, .data, .data, .data, .pinned], laidTests := true, laidLooks := .later }
def SourceNumbersUptoCardSaid : Prop := Claim7.holds Tryd.pinned (.plain (OpenSpec.upto sourceNumbersSpec)) sourceNumbersUptoCard

/-- THE SECOND FORM's CARD OF 'vesperlaw13.SourceChecks'. -/
def sourceChecksUptoCard : Claim7 := { stood := { row := sourceChecksUptoRow, standIns := [], harness := (true, "5a1861b36458e26da74b70a09145f57b13b2092bf6dc5c3a6237f8aabc4f9138"), looks := true }, kinds := [], alts := [], laidByText := true, laidKinds := [.data, .data, .data, .data, .data, .data, .data, .data, .pinned], laidTests := true, laidLooks := .later }
def SourceChecksUptoCardSaid : Prop := Claim7.holds Tryd.pinned (.plain (OpenSpec.upto sourceChecksSpec)) sourceChecksUptoCard

/-- THE SECOND FORM's CARD OF 'vesperlaw13.SourceBack'. -/
def sourceBackUptoCard : Claim7 := { stood := { row := sourceBackUptoRow, standIns := [], harness := (true, "5a1861b36458e26da74b70a09145f57b13b2092bf6dc5c3a6237f8aabc4f9138"), looks := true }, kinds := [], alts := [], laidByText := true, laidKinds := [.data, .data, .data, .data, .data, .data, .data, .data, .pinned], laidTests := true, laidLooks := .later }
def SourceBackUptoCardSaid : Prop := Claim7.holds Tryd.pinned (.plain (OpenSpec.upto sourceBackSpec)) sourceBackUptoCard

/-- THE SECOND FORM's CARD OF 'vesperlaw13.SourceRoom'. -/
def sourceRoomUptoCard : Claim7 := { stood := { row := sourceRoomUptoRow, standIns := [], harness := (true, "5a1861b36458e26da74b70a09145f57b13b2092bf6dc5c3a6237f8aabc4f9138"), looks := true }, kinds := [], alts := [], laidByText := true, laidKinds := [.data, .data, .data, .data, .data, .data, .data, .data, .pinned], laidTests := true, laidLooks := .later }
def SourceRoomUptoCardSaid : Prop := Claim7.holds Tryd.pinned (.plain (OpenSpec.upto sourceRoomSpec)) sourceRoomUptoCard

/-- THE SECOND FORM's CARD OF 'vesperlaw13.SourceSizes'. -/
def sourceSizesUptoCard : Claim7 := { stood := { row := sourceSizesUptoRow, standIns := [], harness := (true, "5a1861b36458e26da74b70a09145f57b13b2092bf6dc5c3a6237f8aabc4f9138"), looks := true }, kinds := [], alts := [], laidByText := true, laidKinds := [.data, .data, .data, .data, .data, .data, .data, .data, .pinned], laidTests := true, laidLooks := .later }
def SourceSizesUptoCardSaid : Prop := Claim7.holds Tryd.pinned (.plain (OpenSpec.upto sourceSizesSpec)) sourceSizesUptoCard

/-- THE SECOND FORM's CARD OF 'vesperlaw07.ScriptAll'. -/
def scriptAllUptoCard : Claim7 := { stood := { row := scriptAllUptoRow, standIns := [], harness := (true, "5a1861b36458e26da74b70a09145f57b13b2092bf6dc5c3a6237f8aabc4f9138"), looks := true }, kinds := [], alts := [], laidByText := true, laidKinds := [.data, .data, .data, .data, .sentinel, .sentinel, .pinned], laidTests := true, laidLooks := .later }
def ScriptAllUptoCardSaid : Prop := Claim7.holds Tryd.pinned (.plain (OpenSpec.upto scriptAllSpec)) scriptAllUptoCard
end Rows
end Go.Proofs.YthnafgffanlnfaaDoor
