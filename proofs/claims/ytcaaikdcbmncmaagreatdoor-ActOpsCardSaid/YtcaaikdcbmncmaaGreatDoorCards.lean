/-
  DERIVED. GIVEN WITH THE SEED: THE CARDS: each row of YtcaaikdcbmncmaaGreatDoorRows.lean that lists a variable, with what it lists TIED to the program's text (the seventh form; the later family's looks); each row that meets fmt, with fmt's text TOLD by the authors' own Lean function (tested against real Go, not proved from fmt's source: count such statements apart). THE CARD IS WHAT COUNTS. Prove the row's statement (the work); the ties are given (YtcaaikdcbmncmaaGreatDoorTie.lean); close each card by the builder's one call (the guide's Derived/Test/ToyasCard.lean, 'card_holds'). Laid BY PROGRAM, IN A SANDBOX (cutbox-door.mjs). By AI agents, Wed Nov 11 2026. No macro, syntax, notation, axiom, sorry.
-/
import Derived.Test.YtcaaikdcbmncmaaGreatDoorRows
import GoSem.ClaimSeven
namespace Go.Proofs.YtcaaikdcbmncmaaGreatDoor
namespace Rows

/-- THE TIED CARD OF 'landaulaw23.CalmStarts'. -/
def calmStartsCard : Claim7 := { stood := { row := calmStartsRow, standIns := [], harness := (true, "995417717d3d17dcfe631355ddf51590c78f3d8a40ae04c89e85f2dd3a25337c"), looks := true }, kinds := [], alts := [], laidByText := true, laidKinds := [.data, .data, .data, .data, .sentinel, .sentinel, .pinned], laidTests := true, laidLooks := .later }
def CalmStartsCardSaid : Prop := Claim7.holds Tryz.pinned (.plain (OpenSpec.ofChange calmStartsSpec)) calmStartsCard

/-- THE TIED CARD OF 'landaulaw22.ActWords'. -/
def actWordsCard : Claim7 := { stood := { row := actWordsRow, standIns := [], harness := (true, "995417717d3d17dcfe631355ddf51590c78f3d8a40ae04c89e85f2dd3a25337c"), looks := true }, kinds := [], alts := [], laidByText := true, laidKinds := [.data, .data, .data, .data, .sentinel, .sentinel, .pinned], laidTests := true, laidLooks := .later }
def ActWordsCardSaid : Prop := Claim7.holds Tryz.pinned (.plain (OpenSpec.ofChange actWordsSpec)) actWordsCard

/-- THE TIED CARD OF 'landaulaw22.ActScript'. -/
def actScriptCard : Claim7 := { stood := { row := actScriptRow, standIns := [], harness := (true, "995417717d3d17dcfe631355ddf51590c78f3d8a40ae04c89e85f2dd3a25337c"), looks := true }, kinds := [], alts := [], laidByText := true, laidKinds := [.data, .data, .data, .data, .sentinel, .sentinel, .pinned], laidTests := true, laidLooks := .later }
def ActScriptCardSaid : Prop := Claim7.holds Tryz.pinned (.plain (OpenSpec.ofChange actScriptSpec)) actScriptCard

/-- THE TIED CARD OF 'landaulaw22.ActOps'. -/
def actOpsCard : Claim7 := { stood := { row := actOpsRow, standIns := [], harness := (true, "995417717d3d17dcfe631355ddf51590c78f3d8a40ae04c89e85f2dd3a25337c"), looks := true }, kinds := [], alts := [], laidByText := true, laidKinds := [.data, .data, .data, .data, .sentinel, .sentinel, .pinned], laidTests := true, laidLooks := .later }
def ActOpsCardSaid : Prop := Claim7.holds Tryz.pinned (.plain (OpenSpec.ofChange actOpsSpec)) actOpsCard

/-- THE TIED CARD OF 'landaulaw22.ActNone'. -/
def actNoneCard : Claim7 := { stood := { row := actNoneRow, standIns := [], harness := (true, "995417717d3d17dcfe631355ddf51590c78f3d8a40ae04c89e85f2dd3a25337c"), looks := true }, kinds := [], alts := [], laidByText := true, laidKinds := [.data, .data, .data, .data, .sentinel, .sentinel, .pinned], laidTests := true, laidLooks := .later }
def ActNoneCardSaid : Prop := Claim7.holds Tryz.pinned (.plain (OpenSpec.ofChange actNoneSpec)) actNoneCard

/-- THE SECOND FORM's CARD OF 'landaulaw23.CalmStarts'. -/
def calmStartsUptoCard : Claim7 := { stood := { row := calmStartsUptoRow, standIns := [], harness := (true, "995417717d3d17dcfe631355ddf51590c78f3d8a40ae04c89e85f2dd3a25337c"), looks := true }, kinds := [], alts := [], laidByText := true, laidKinds := [.data, .data, .data, .data, .sentinel, .sentinel, .pinned], laidTests := true, laidLooks := .later }
def CalmStartsUptoCardSaid : Prop := Claim7.holds Tryz.pinned (.plain (OpenSpec.upto calmStartsSpec)) calmStartsUptoCard

/-- THE SECOND FORM's CARD OF 'landaulaw22.ActWords'. -/
def actWordsUptoCard : Claim7 := { stood := { row := actWordsUptoRow, standIns := [], harness := (true, "995417717d3d17dcfe631355ddf51590c78f3d8a40ae04c89e85f2dd3a25337c"), looks := true }, kinds := [], alts := [], laidByText := true, laidKinds := [.data, .data, .data, .data, .sentinel, .sentinel, .pinned], laidTests := true, laidLooks := .later }
def ActWordsUptoCardSaid : Prop := Claim7.holds Tryz.pinned (.plain (OpenSpec.upto actWordsSpec)) actWordsUptoCard

/-- THE SECOND FORM's CARD OF 'landaulaw22.ActScript'. -/
def actScriptUptoCard : Claim7 := { stood := { row := actScriptUptoRow, standIns := [], harness := (true, "995417717d3d17dcfe631355ddf51590c78f3d8a40ae04c89e85f2dd3a25337c"), looks := true }, kinds := [], alts := [], laidByText := true, laidKinds := [.data, .data, .data, .data, .sentinel, .sentinel, .pinned], laidTests := true, laidLooks := .later }
def ActScriptUptoCardSaid : Prop := Claim7.holds Tryz.pinned (.plain (OpenSpec.upto actScriptSpec)) actScriptUptoCard

/-- THE SECOND FORM's CARD OF 'landaulaw22.ActOps'. -/
def actOpsUptoCard : Claim7 := { stood := { row := actOpsUptoRow, standIns := [], harness := (true, "995417717d3d17dcfe631355ddf51590c78f3d8a40ae04c89e85f2dd3a25337c"), looks := true }, kinds := [], alts := [], laidByText := true, laidKinds := [.data, .data, .data, .data, .sentinel, .sentinel, .pinned], laidTests := true, laidLooks := .later }
def ActOpsUptoCardSaid : Prop := Claim7.holds Tryz.pinned (.plain (OpenSpec.upto actOpsSpec)) actOpsUptoCard

/-- THE SECOND FORM's CARD OF 'landaulaw22.ActNone'. -/
def actNoneUptoCard : Claim7 := { stood := { row := actNoneUptoRow, standIns := [], harness := (true, "995417717d3d17dcfe631355ddf51590c78f3d8a40ae04c89e85f2dd3a25337c"), looks := true }, kinds := [], alts := [], laidByText := true, laidKinds := [.data, .data, .data, .data, .sentinel, .sentinel, .pinned], laidTests := true, laidLooks := .later }
def ActNoneUptoCardSaid : Prop := Claim7.holds Tryz.pinned (.plain (OpenSpec.upto actNoneSpec)) actNoneUptoCard
end Rows
end Go.Proofs.YtcaaikdcbmncmaaGreatDoor
