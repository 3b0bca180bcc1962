/-
  DERIVED. GIVEN WITH THE SEED: THE CARDS: each row of YtkbidoikndgheaaDoorRows.lean that lists a variable, with what it lists TIED to the program's text (the seventh form; the later family's looks); each row that meets fmt, with fmt's text TOLD by the authors' own Lean function (tested against real Go, not proved from fmt's source: count such statements apart). THE CARD IS WHAT COUNTS. Prove the row's statement (the work); the ties are given (YtkbidoikndgheaaDoorTie.lean); close each card by the builder's one call (the guide's Derived/Test/ToyasCard.lean, 'card_holds'). Laid BY PROGRAM, IN A SANDBOX (cutbox-door.mjs). By AI agents, Wed Nov 11 2026. No macro, syntax, notation, axiom, sorry.
-/
import Derived.Test.YtkbidoikndgheaaDoorRows
import GoSem.ClaimSeven
namespace Go.Proofs.YtkbidoikndgheaaDoor
namespace Rows

/-- THE TIED CARD OF 'moultlaw16.ChainResolves'. -/
def chainResolvesCard : Claim7 := { stood := { row := chainResolvesRow, standIns := [], harness := (true, "df8fb41e5af5f1dcd363efbdf094801dd20a918890a3a69becdb2df40a402839"), looks := false }, kinds := [], alts := [], laidByText := true, laidKinds := [.data, .pinned], laidTests := true, laidLooks := .later }
def ChainResolvesCardSaid : Prop := Claim7.holds Tryd.pinned (.plain (OpenSpec.ofChange chainResolvesSpec)) chainResolvesCard

/-- THE TIED CARD OF 'moultlaw16.ChainComposes'. -/
def chainComposesCard : Claim7 := { stood := { row := chainComposesRow, standIns := [], harness := (true, "df8fb41e5af5f1dcd363efbdf094801dd20a918890a3a69becdb2df40a402839"), looks := false }, kinds := [], alts := [], laidByText := true, laidKinds := [.data, .pinned], laidTests := true, laidLooks := .later }
def ChainComposesCardSaid : Prop := Claim7.holds Tryd.pinned (.plain (OpenSpec.ofChange chainComposesSpec)) chainComposesCard

/-- THE TIED CARD OF 'moultlaw16.ChainLengthens'. -/
def chainLengthensCard : Claim7 := { stood := { row := chainLengthensRow, standIns := [], harness := (true, "df8fb41e5af5f1dcd363efbdf094801dd20a918890a3a69becdb2df40a402839"), looks := false }, kinds := [], alts := [], laidByText := true, laidKinds := [.data, .pinned], laidTests := true, laidLooks := .later }
def ChainLengthensCardSaid : Prop := Claim7.holds Tryd.pinned (.plain (OpenSpec.ofChange chainLengthensSpec)) chainLengthensCard

/-- THE TIED CARD OF 'moultlaw16.ChainIDs'. -/
def chainIDsCard : Claim7 := { stood := { row := chainIDsRow, standIns := [], harness := (true, "df8fb41e5af5f1dcd363efbdf094801dd20a918890a3a69becdb2df40a402839"), looks := false }, kinds := [], alts := [], laidByText := true, laidKinds := [.data, .pinned], laidTests := true, laidLooks := .later }
def ChainIDsCardSaid : Prop := Claim7.holds Tryd.pinned (.plain (OpenSpec.ofChange chainIDsSpec)) chainIDsCard

/-- THE TIED CARD OF 'moultlaw16.ChainPlays'. -/
def chainPlaysCard : Claim7 := { stood := { row := chainPlaysRow, standIns := [], harness := (true, "df8fb41e5af5f1dcd363efbdf094801dd20a918890a3a69becdb2df40a402839"), looks := false }, kinds := [], alts := [], laidByText := true, laidKinds := [.data, .pinned], laidTests := true, laidLooks := .later }
def ChainPlaysCardSaid : Prop := Claim7.holds Tryd.pinned (.plain (OpenSpec.ofChange chainPlaysSpec)) chainPlaysCard

/-- THE TIED CARD OF 'moultlaw16.ChainRetires'. -/
def chainRetiresCard : Claim7 := { stood := { row := chainRetiresRow, standIns := [], harness := (true, "df8fb41e5af5f1dcd363efbdf094801dd20a918890a3a69becdb2df40a402839"), looks := false }, kinds := [], alts := [], laidByText := true, laidKinds := [.data, .pinned], laidTests := true, laidLooks := .later }
def ChainRetiresCardSaid : Prop := Claim7.holds Tryd.pinned (.plain (OpenSpec.ofChange chainRetiresSpec)) chainRetiresCard

/-- THE TIED CARD OF 'moultlaw14.SchemaRows'. -/
def schemaRowsCard : Claim7 := { stood := { row := schemaRowsRow, standIns := [], harness := (true, "df8fb41e5af5f1dcd363efbdf094801dd20a918890a3a69becdb2df40a402839"), looks := false }, kinds := [], alts := [], laidByText := true, laidKinds := [.data, .pinned], laidTests := true, laidLooks := .later }
def SchemaRowsCardSaid : Prop := Claim7.holds Tryd.pinned (.plain (OpenSpec.ofChange schemaRowsSpec)) schemaRowsCard

/-- THE TIED CARD OF 'moultlaw14.SchemaFits'. -/
def schemaFitsCard : Claim7 := { stood := { row := schemaFitsRow, standIns := [], harness := (true, "df8fb41e5af5f1dcd363efbdf094801dd20a918890a3a69becdb2df40a402839"), looks := false }, kinds := [], alts := [], laidByText := true, laidKinds := [.data, .pinned], laidTests := true, laidLooks := .later }
def SchemaFitsCardSaid : Prop := Claim7.holds Tryd.pinned (.plain (OpenSpec.ofChange schemaFitsSpec)) schemaFitsCard

/-- THE TIED CARD OF 'moultlaw14.SchemaTells'. -/
def schemaTellsCard : Claim7 := { stood := { row := schemaTellsRow, standIns := [], harness := (true, "df8fb41e5af5f1dcd363efbdf094801dd20a918890a3a69becdb2df40a402839"), looks := false }, kinds := [], alts := [], laidByText := true, laidKinds := [.data, .pinned], laidTests := true, laidLooks := .later }
def SchemaTellsCardSaid : Prop := Claim7.holds Tryd.pinned (.plain (OpenSpec.ofChange schemaTellsSpec)) schemaTellsCard

/-- THE TIED CARD OF 'moultlaw14.SchemaFinds'. -/
def schemaFindsCard : Claim7 := { stood := { row := schemaFindsRow, standIns := [], harness := (true, "df8fb41e5af5f1dcd363efbdf094801dd20a918890a3a69becdb2df40a402839"), looks := false }, kinds := [], alts := [], laidByText := true, laidKinds := [.data, .pinned], laidTests := true, laidLooks := .later }
def SchemaFindsCardSaid : Prop := Claim7.holds Tryd.pinned (.plain (OpenSpec.ofChange schemaFindsSpec)) schemaFindsCard

/-- THE TIED CARD OF 'moultlaw14.SchemaPacks'. -/
def schemaPacksCard : Claim7 := { stood := { row := schemaPacksRow, standIns := [], harness := (true, "df8fb41e5af5f1dcd363efbdf094801dd20a918890a3a69becdb2df40a402839"), looks := false }, kinds := [], alts := [], laidByText := true, laidKinds := [.data, .pinned], laidTests := true, laidLooks := .later }
def SchemaPacksCardSaid : Prop := Claim7.holds Tryd.pinned (.plain (OpenSpec.ofChange schemaPacksSpec)) schemaPacksCard

/-- THE TIED CARD OF 'moultlaw14.SchemaBack'. -/
def schemaBackCard : Claim7 := { stood := { row := schemaBackRow, standIns := [], harness := (true, "df8fb41e5af5f1dcd363efbdf094801dd20a918890a3a69becdb2df40a402839"), looks := false }, kinds := [], alts := [], laidByText := true, laidKinds := [.data, .pinned], laidTests := true, laidLooks := .later }
def SchemaBackCardSaid : Prop := Claim7.holds Tryd.pinned (.plain (OpenSpec.ofChange schemaBackSpec)) schemaBackCard

/-- THE SECOND FORM's CARD OF 'moultlaw16.ChainResolves'. -/
def chainResolvesUptoCard : Claim7 := { stood := { row := chainResolvesUptoRow, standIns := [], harness := (true, "df8fb41e5af5f1dcd363efbdf094801dd20a918890a3a69becdb2df40a402839"), looks := false }, kinds := [], alts := [], laidByText := true, laidKinds := [.data, .pinned], laidTests := true, laidLooks := .later }
def ChainResolvesUptoCardSaid : Prop := Claim7.holds Tryd.pinned (.plain (OpenSpec.upto chainResolvesSpec)) chainResolvesUptoCard

/-- THE SECOND FORM's CARD OF 'moultlaw16.ChainComposes'. -/
def chainComposesUptoCard : Claim7 := { stood := { row := chainComposesUptoRow, standIns := [], harness := (true, "df8fb41e5af5f1dcd363efbdf094801dd20a918890a3a69becdb2df40a402839"), looks := false }, kinds := [], alts := [], laidByText := true, laidKinds := [.data, .pinned], laidTests := true, laidLooks := .later }
def ChainComposesUptoCardSaid : Prop := Claim7.holds Tryd.pinned (.plain (OpenSpec.upto chainComposesSpec)) chainComposesUptoCard

/-- THE SECOND FORM's CARD OF 'moultlaw16.ChainLengthens'. -/
def chainLengthensUptoCard : Claim7 := { stood := { row := chainLengthensUptoRow, standIns := [], harness := (true, "df8fb41e5af5f1dcd363efbdf094801dd20a918890a3a69becdb2df40a402839"), looks := false }, kinds := [], alts := [], laidByText := true, laidKinds := [.data, .pinned], laidTests := true, laidLooks := .later }
def ChainLengthensUptoCardSaid : Prop := Claim7.holds Tryd.pinned (.plain (OpenSpec.upto chainLengthensSpec)) chainLengthensUptoCard

/-- THE SECOND FORM's CARD OF 'moultlaw16.ChainIDs'. -/
def chainIDsUptoCard : Claim7 := { stood := { row := chainIDsUptoRow, standIns := [], harness := (true, "df8fb41e5af5f1dcd363efbdf094801dd20a918890a3a69becdb2df40a402839"), looks := false }, kinds := [], alts := [], laidByText := true, laidKinds := [.data, .pinned], laidTests := true, laidLooks := .later }
def ChainIDsUptoCardSaid : Prop := Claim7.holds Tryd.pinned (.plain (OpenSpec.upto chainIDsSpec)) chainIDsUptoCard

/-- THE SECOND FORM's CARD OF 'moultlaw16.ChainPlays'. -/
def chainPlaysUptoCard : Claim7 := { stood := { row := chainPlaysUptoRow, standIns := [], harness := (true, "df8fb41e5af5f1dcd363efbdf094801dd20a918890a3a69becdb2df40a402839"), looks := false }, kinds := [], alts := [], laidByText := true, laidKinds := [.data, .pinned], laidTests := true, laidLooks := .later }
def ChainPlaysUptoCardSaid : Prop := Claim7.holds Tryd.pinned (.plain (OpenSpec.upto chainPlaysSpec)) chainPlaysUptoCard

/-- THE SECOND FORM's CARD OF 'moultlaw16.ChainRetires'. -/
def chainRetiresUptoCard : Claim7 := { stood := { row := chainRetiresUptoRow, standIns := [], harness := (true, "df8fb41e5af5f1dcd363efbdf094801dd20a918890a3a69becdb2df40a402839"), looks := false }, kinds := [], alts := [], laidByText := true, laidKinds := [.data, .pinned], laidTests := true, laidLooks := .later }
def ChainRetiresUptoCardSaid : Prop := Claim7.holds Tryd.pinned (.plain (OpenSpec.upto chainRetiresSpec)) chainRetiresUptoCard

/-- THE SECOND FORM's CARD OF 'moultlaw14.SchemaRows'. -/
def schemaRowsUptoCard : Claim7 := { stood := { row := schemaRowsUptoRow, standIns := [], harness := (true, "df8fb41e5af5f1dcd363efbdf094801dd20a918890a3a69becdb2df40a402839"), looks := false }, kinds := [], alts := [], laidByText := true, laidKinds := [.data, .pinned], laidTests := true, laidLooks := .later }
def SchemaRowsUptoCardSaid : Prop := Claim7.holds Tryd.pinned (.plain (OpenSpec.upto schemaRowsSpec)) schemaRowsUptoCard

/-- THE SECOND FORM's CARD OF 'moultlaw14.SchemaFits'. -/
def schemaFitsUptoCard : Claim7 := { stood := { row := schemaFitsUptoRow, standIns := [], harness := (true, "df8fb41e5af5f1dcd363efbdf094801dd20a918890a3a69becdb2df40a402839"), looks := false }, kinds := [], alts := [], laidByText := true, laidKinds := [.data, .pinned], laidTests := true, laidLooks := .later }
def SchemaFitsUptoCardSaid : Prop := Claim7.holds Tryd.pinned (.plain (OpenSpec.upto schemaFitsSpec)) schemaFitsUptoCard

/-- THE SECOND FORM's CARD OF 'moultlaw14.SchemaTells'. -/
def schemaTellsUptoCard : Claim7 := { stood := { row := schemaTellsUptoRow, standIns := [], harness := (true, "df8fb41e5af5f1dcd363efbdf094801dd20a918890a3a69becdb2df40a402839"), looks := false }, kinds := [], alts := [], laidByText := true, laidKinds := [.data, .pinned], laidTests := true, laidLooks := .later }
def SchemaTellsUptoCardSaid : Prop := Claim7.holds Tryd.pinned (.plain (OpenSpec.upto schemaTellsSpec)) schemaTellsUptoCard

/-- THE SECOND FORM's CARD OF 'moultlaw14.SchemaFinds'. -/
def schemaFindsUptoCard : Claim7 := { stood := { row := schemaFindsUptoRow, standIns := [], harness := (true, "df8fb41e5af5f1dcd363efbdf094801dd20a918890a3a69becdb2df40a402839"), looks := false }, kinds := [], alts := [], laidByText := true, laidKinds := [.data, .pinned], laidTests := true, laidLooks := .later }
def SchemaFindsUptoCardSaid : Prop := Claim7.holds Tryd.pinned (.plain (OpenSpec.upto schemaFindsSpec)) schemaFindsUptoCard

/-- THE SECOND FORM's CARD OF 'moultlaw14.SchemaPacks'. -/
def schemaPacksUptoCard : Claim7 := { stood := { row := schemaPacksUptoRow, standIns := [], harness := (true, "df8fb41e5af5f1dcd363efbdf094801dd20a918890a3a69becdb2df40a402839"), looks := false }, kinds := [], alts := [], laidByText := true, laidKinds := [.data, .pinned], laidTests := true, laidLooks := .later }
def SchemaPacksUptoCardSaid : Prop := Claim7.holds Tryd.pinned (.plain (OpenSpec.upto schemaPacksSpec)) schemaPacksUptoCard

/-- THE SECOND FORM's CARD OF 'moultlaw14.SchemaBack'. -/
def schemaBackUptoCard : Claim7 := { stood := { row := schemaBackUptoRow, standIns := [], harness := (true, "df8fb41e5af5f1dcd363efbdf094801dd20a918890a3a69becdb2df40a402839"), looks := false }, kinds := [], alts := [], laidByText := true, laidKinds := [.data, .pinned], laidTests := true, laidLooks := .later }
def SchemaBackUptoCardSaid : Prop := Claim7.holds Tryd.pinned (.plain (OpenSpec.upto schemaBackSpec)) schemaBackUptoCard
end Rows
end Go.Proofs.YtkbidoikndgheaaDoor
