/-
  NARROWER THAN 'FOR EVERY INPUT', by the rows' own cells (each row's printed sentence says how): ChainResolves: laid · ChainComposes: laid · ChainLengthens: laid · ChainIDs: laid · ChainPlays: laid · ChainRetires: laid · SchemaRows: laid · SchemaFits: laid · SchemaTells: laid · SchemaFinds: laid · SchemaPacks: laid · SchemaBack: laid.
  DERIVED. THE GIVEN ROWS OF THIS SEAT. 12 by the template 'for every input the law returns true; each argument reads behind the call as it read before'; 0 by the template 'total and deterministic' (their statements: YtkbidoikndgheaaDoorTotals.lean).
  GIVEN WITH THE SEED: the statements are not yours to turn. If you find one false, say at which input.
  Laid BY PROGRAM, IN A SANDBOX (cutbox-rows.mjs): the forced cells as the released guide's own fill.sh prints them over the translation 64389ba6793ca2f3… (all of the seat's roots in one cut). By AI agents, Wed Nov 11 2026. No macro, syntax, notation, axiom, sorry.
-/
import Derived.Test.YtkbidoikndgheaaDoorChecked
import GoSem.PinnedTables
import GoSem.Claim
import GoSem.ClaimJoined
import GoSem.ClaimMapViews
import Derived.JoinedTies
import Derived.KernelRfl
namespace Go.Proofs.YtkbidoikndgheaaDoor
/- THE CELL 'sum', in the pinned program and in every row, IS THE sha256 OF THE DUMP (.gsa) THAT YtkbidoikndgheaaDoorProg.lean LOADS. Nothing in Lean hashes anything: it is a label: what it is worth is what the hold of that sum in a sandbox is worth. -/
noncomputable def Tryd.pinned : Pinned := { name := "ytkbidoikndgheaadoor", sum := "64389ba6793ca2f3bb929202715648736c5b53e7262fc62827e7cbf4922fede9", checked := Tryd.checked }
namespace Rows
def none {H : Type} : Left H := { results := [], args := [] }

/- WHAT THE LISTED PACKAGE-LEVEL VARIABLES READ AS WHEN THE CALL BEGINS. Each datum BY PROGRAM (the guide's laid-datum.mjs) off the statement by which the dump's own 'gosem.cut.vars' lays the variable. In a bare row this is a premise. The card (YtkbidoikndgheaaDoorCards.lean) ties it to the program's text. -/
def laid_unicode_utf8_acceptRanges {H : Type} : DataW H := .agg [.agg [.lit (.int .u8 128), .lit (.int .u8 191)], .agg [.lit (.int .u8 160), .lit (.int .u8 191)], .agg [.lit (.int .u8 128), .lit (.int .u8 159)], .agg [.lit (.int .u8 144), .lit (.int .u8 191)], .agg [.lit (.int .u8 128), .lit (.int .u8 143)], .agg [.lit (.int .u8 0), .lit (.int .u8 0)], .agg [.lit (.int .u8 0), .lit (.int .u8 0)], .agg [.lit (.int .u8 0), .lit (.int .u8 0)], .agg [.lit (.int .u8 0), .lit (.int .u8 0)], .agg [.lit (.int .u8 0), .lit (.int .u8 0)], .agg [.lit (.int .u8 0), .lit (.int .u8 0)], .agg [.lit (.int .u8 0), .lit (.int .u8 0)], .agg [.lit (.int .u8 0), .lit (.int .u8 0)], .agg [.lit (.int .u8 0), .lit (.int .u8 0)], .agg [.lit (.int .u8 0), .lit (.int .u8 0)], .agg [.lit (.int .u8 0), .lit (.int .u8 0)]]
/-- One of Go's own tables, pinned by name: the form's constant. -/
def laid_unicode_utf8_first : DataW Unit := Go.Pinned.utf8First

/-- 'moultlaw16.ChainResolves': WHATEVER THE INPUT: true; the input reads as it did. -/
def chainResolvesSpec : ChangeSpec := { name := "chainResolves", fn := fun _ => fun
  | [d1, d2, d3] => { results := [.lit (.bool true)], args := [d1, d2, d3] }
  | _ => none }
def chainResolvesRow : OpenClaim := { program := "ytkbidoikndgheaadoor", sum := "64389ba6793ca2f3bb929202715648736c5b53e7262fc62827e7cbf4922fede9", func := "moult/moultlaw16.ChainResolves", spec := "chainResolves", inPlace := ["internal/bytealg.IndexByteString", "internal/bytealg.IndexString"], unfollowed := true, recurses := true, named := ["unicode/utf8.first", "unicode/utf8.acceptRanges", "internal/bytealg.MaxLen"], apart := false, laid := [("unicode/utf8.acceptRanges", laid_unicode_utf8_acceptRanges), ("unicode/utf8.first", laid_unicode_utf8_first)] }
def ChainResolvesSaid : Prop := chainResolvesRow.holds Tryd.pinned (OpenSpec.ofChange chainResolvesSpec)

/-- ITS FALSE NEIGHBOUR: 'it returns false'. Refute it at one input. -/
def chainResolvesWrong : ChangeSpec := { name := "chainResolves", fn := fun _ => fun
  | [d1, d2, d3] => { results := [.lit (.bool false)], args := [d1, d2, d3] }
  | _ => none }
def ChainResolvesWrongFalsely : Prop := chainResolvesRow.holds Tryd.pinned (OpenSpec.ofChange chainResolvesWrong)

/-- 'moultlaw16.ChainComposes': WHATEVER THE INPUT: true; the input reads as it did. -/
def chainComposesSpec : ChangeSpec := { name := "chainComposes", fn := fun _ => fun
  | [d1, d2, d3, d4, d5, d6, d7] => { results := [.lit (.bool true)], args := [d1, d2, d3, d4, d5, d6, d7] }
  | _ => none }
def chainComposesRow : OpenClaim := { program := "ytkbidoikndgheaadoor", sum := "64389ba6793ca2f3bb929202715648736c5b53e7262fc62827e7cbf4922fede9", func := "moult/moultlaw16.ChainComposes", spec := "chainComposes", inPlace := ["internal/bytealg.IndexByteString", "internal/bytealg.IndexString"], unfollowed := true, recurses := true, named := ["unicode/utf8.first", "unicode/utf8.acceptRanges", "internal/bytealg.MaxLen"], apart := false, laid := [("unicode/utf8.acceptRanges", laid_unicode_utf8_acceptRanges), ("unicode/utf8.first", laid_unicode_utf8_first)] }
def ChainComposesSaid : Prop := chainComposesRow.holds Tryd.pinned (OpenSpec.ofChange chainComposesSpec)

/-- ITS FALSE NEIGHBOUR: 'it returns false'. Refute it at one input. -/
def chainComposesWrong : ChangeSpec := { name := "chainComposes", fn := fun _ => fun
  | [d1, d2, d3, d4, d5, d6, d7] => { results := [.lit (.bool false)], args := [d1, d2, d3, d4, d5, d6, d7] }
  | _ => none }
def ChainComposesWrongFalsely : Prop := chainComposesRow.holds Tryd.pinned (OpenSpec.ofChange chainComposesWrong)

/-- 'moultlaw16.ChainLengthens': WHATEVER THE INPUT: true; the input reads as it did. -/
def chainLengthensSpec : ChangeSpec := { name := "chainLengthens", fn := fun _ => fun
  | [d1, d2, d3] => { results := [.lit (.bool true)], args := [d1, d2, d3] }
  | _ => none }
def chainLengthensRow : OpenClaim := { program := "ytkbidoikndgheaadoor", sum := "64389ba6793ca2f3bb929202715648736c5b53e7262fc62827e7cbf4922fede9", func := "moult/moultlaw16.ChainLengthens", spec := "chainLengthens", inPlace := ["internal/bytealg.IndexByteString", "internal/bytealg.IndexString"], unfollowed := true, recurses := true, named := ["unicode/utf8.first", "unicode/utf8.acceptRanges", "internal/bytealg.MaxLen"], apart := false, laid := [("unicode/utf8.acceptRanges", laid_unicode_utf8_acceptRanges), ("unicode/utf8.first", laid_unicode_utf8_first)] }
def ChainLengthensSaid : Prop := chainLengthensRow.holds Tryd.pinned (OpenSpec.ofChange chainLengthensSpec)

/-- ITS FALSE NEIGHBOUR: 'it returns false'. Refute it at one input. -/
def chainLengthensWrong : ChangeSpec := { name := "chainLengthens", fn := fun _ => fun
  | [d1, d2, d3] => { results := [.lit (.bool false)], args := [d1, d2, d3] }
  | _ => none }
def ChainLengthensWrongFalsely : Prop := chainLengthensRow.holds Tryd.pinned (OpenSpec.ofChange chainLengthensWrong)

/-- 'moultlaw16.ChainIDs': WHATEVER THE INPUT: true; the input reads as it did. -/
def chainIDsSpec : ChangeSpec := { name := "chainIDs", fn := fun _ => fun
  | [d1, d2] => { results := [.lit (.bool true)], args := [d1, d2] }
  | _ => none }
def chainIDsRow : OpenClaim := { program := "ytkbidoikndgheaadoor", sum := "64389ba6793ca2f3bb929202715648736c5b53e7262fc62827e7cbf4922fede9", func := "moult/moultlaw16.ChainIDs", spec := "chainIDs", inPlace := ["internal/bytealg.IndexByteString", "internal/bytealg.IndexString"], unfollowed := true, recurses := true, named := ["unicode/utf8.first", "unicode/utf8.acceptRanges", "internal/bytealg.MaxLen"], apart := false, laid := [("unicode/utf8.acceptRanges", laid_unicode_utf8_acceptRanges), ("unicode/utf8.first", laid_unicode_utf8_first)] }
def ChainIDsSaid : Prop := chainIDsRow.holds Tryd.pinned (OpenSpec.ofChange chainIDsSpec)

/-- ITS FALSE NEIGHBOUR: 'it returns false'. Refute it at one input. -/
def chainIDsWrong : ChangeSpec := { name := "chainIDs", fn := fun _ => fun
  | [d1, d2] => { results := [.lit (.bool false)], args := [d1, d2] }
  | _ => none }
def ChainIDsWrongFalsely : Prop := chainIDsRow.holds Tryd.pinned (OpenSpec.ofChange chainIDsWrong)

/-- 'moultlaw16.ChainPlays': WHATEVER THE INPUT: true; the input reads as it did. -/
def chainPlaysSpec : ChangeSpec := { name := "chainPlays", fn := fun _ => fun
  | [d1, d2, d3] => { results := [.lit (.bool true)], args := [d1, d2, d3] }
  | _ => none }
def chainPlaysRow : OpenClaim := { program := "ytkbidoikndgheaadoor", sum := "64389ba6793ca2f3bb929202715648736c5b53e7262fc62827e7cbf4922fede9", func := "moult/moultlaw16.ChainPlays", spec := "chainPlays", inPlace := ["internal/bytealg.IndexByteString", "internal/bytealg.IndexString"], unfollowed := true, recurses := true, named := ["unicode/utf8.first", "unicode/utf8.acceptRanges", "internal/bytealg.MaxLen"], apart := false, laid := [("unicode/utf8.acceptRanges", laid_unicode_utf8_acceptRanges), ("unicode/utf8.first", laid_unicode_utf8_first)] }
def ChainPlaysSaid : Prop := chainPlaysRow.holds Tryd.pinned (OpenSpec.ofChange chainPlaysSpec)

/-- ITS FALSE NEIGHBOUR: 'it returns false'. Refute it at one input. -/
def chainPlaysWrong : ChangeSpec := { name := "chainPlays", fn := fun _ => fun
  | [d1, d2, d3] => { results := [.lit (.bool false)], args := [d1, d2, d3] }
  | _ => none }
def ChainPlaysWrongFalsely : Prop := chainPlaysRow.holds Tryd.pinned (OpenSpec.ofChange chainPlaysWrong)

/-- 'moultlaw16.ChainRetires': WHATEVER THE INPUT: true; the input reads as it did. -/
def chainRetiresSpec : ChangeSpec := { name := "chainRetires", fn := fun _ => fun
  | [d1, d2, d3, d4, d5] => { results := [.lit (.bool true)], args := [d1, d2, d3, d4, d5] }
  | _ => none }
def chainRetiresRow : OpenClaim := { program := "ytkbidoikndgheaadoor", sum := "64389ba6793ca2f3bb929202715648736c5b53e7262fc62827e7cbf4922fede9", func := "moult/moultlaw16.ChainRetires", spec := "chainRetires", inPlace := ["internal/bytealg.IndexByteString", "internal/bytealg.IndexString"], unfollowed := true, recurses := true, named := ["unicode/utf8.first", "unicode/utf8.acceptRanges", "internal/bytealg.MaxLen"], apart := false, laid := [("unicode/utf8.acceptRanges", laid_unicode_utf8_acceptRanges), ("unicode/utf8.first", laid_unicode_utf8_first)] }
def ChainRetiresSaid : Prop := chainRetiresRow.holds Tryd.pinned (OpenSpec.ofChange chainRetiresSpec)

/-- ITS FALSE NEIGHBOUR: 'it returns false'. Refute it at one input. -/
def chainRetiresWrong : ChangeSpec := { name := "chainRetires", fn := fun _ => fun
  | [d1, d2, d3, d4, d5] => { results := [.lit (.bool false)], args := [d1, d2, d3, d4, d5] }
  | _ => none }
def ChainRetiresWrongFalsely : Prop := chainRetiresRow.holds Tryd.pinned (OpenSpec.ofChange chainRetiresWrong)

/-- 'moultlaw14.SchemaRows': WHATEVER THE INPUT: true; the input reads as it did. -/
def schemaRowsSpec : ChangeSpec := { name := "schemaRows", fn := fun _ => fun
  | [d1, d2, d3, d4] => { results := [.lit (.bool true)], args := [d1, d2, d3, d4] }
  | _ => none }
def schemaRowsRow : OpenClaim := { program := "ytkbidoikndgheaadoor", sum := "64389ba6793ca2f3bb929202715648736c5b53e7262fc62827e7cbf4922fede9", func := "moult/moultlaw14.SchemaRows", spec := "schemaRows", inPlace := ["internal/bytealg.CountString", "internal/bytealg.IndexByteString", "internal/bytealg.IndexString", "internal/abi.NoEscape", "internal/bytealg.MakeNoZero"], unfollowed := true, recurses := true, named := ["internal/bytealg.MaxLen", "unicode/utf8.first", "unicode/utf8.acceptRanges"], apart := false, laid := [("unicode/utf8.acceptRanges", laid_unicode_utf8_acceptRanges), ("unicode/utf8.first", laid_unicode_utf8_first)] }
def SchemaRowsSaid : Prop := schemaRowsRow.holds Tryd.pinned (OpenSpec.ofChange schemaRowsSpec)

/-- ITS FALSE NEIGHBOUR: 'it returns false'. Refute it at one input. -/
def schemaRowsWrong : ChangeSpec := { name := "schemaRows", fn := fun _ => fun
  | [d1, d2, d3, d4] => { results := [.lit (.bool false)], args := [d1, d2, d3, d4] }
  | _ => none }
def SchemaRowsWrongFalsely : Prop := schemaRowsRow.holds Tryd.pinned (OpenSpec.ofChange schemaRowsWrong)

/-- 'moultlaw14.SchemaFits': WHATEVER THE INPUT: true; the input reads as it did. -/
def schemaFitsSpec : ChangeSpec := { name := "schemaFits", fn := fun _ => fun
  | [d1, d2] => { results := [.lit (.bool true)], args := [d1, d2] }
  | _ => none }
def schemaFitsRow : OpenClaim := { program := "ytkbidoikndgheaadoor", sum := "64389ba6793ca2f3bb929202715648736c5b53e7262fc62827e7cbf4922fede9", func := "moult/moultlaw14.SchemaFits", spec := "schemaFits", inPlace := ["internal/bytealg.CountString", "internal/bytealg.IndexByteString", "internal/bytealg.IndexString", "internal/abi.NoEscape", "internal/bytealg.MakeNoZero"], unfollowed := true, recurses := true, named := ["internal/bytealg.MaxLen", "unicode/utf8.first", "unicode/utf8.acceptRanges"], apart := false, laid := [("unicode/utf8.acceptRanges", laid_unicode_utf8_acceptRanges), ("unicode/utf8.first", laid_unicode_utf8_first)] }
def SchemaFitsSaid : Prop := schemaFitsRow.holds Tryd.pinned (OpenSpec.ofChange schemaFitsSpec)

/-- ITS FALSE NEIGHBOUR: 'it returns false'. Refute it at one input. -/
def schemaFitsWrong : ChangeSpec := { name := "schemaFits", fn := fun _ => fun
  | [d1, d2] => { results := [.lit (.bool false)], args := [d1, d2] }
  | _ => none }
def SchemaFitsWrongFalsely : Prop := schemaFitsRow.holds Tryd.pinned (OpenSpec.ofChange schemaFitsWrong)

/-- 'moultlaw14.SchemaTells': WHATEVER THE INPUT: true; the input reads as it did. -/
def schemaTellsSpec : ChangeSpec := { name := "schemaTells", fn := fun _ => fun
  | [d1, d2, d3, d4] => { results := [.lit (.bool true)], args := [d1, d2, d3, d4] }
  | _ => none }
def schemaTellsRow : OpenClaim := { program := "ytkbidoikndgheaadoor", sum := "64389ba6793ca2f3bb929202715648736c5b53e7262fc62827e7cbf4922fede9", func := "moult/moultlaw14.SchemaTells", spec := "schemaTells", inPlace := ["internal/bytealg.CountString", "internal/bytealg.IndexByteString", "internal/bytealg.IndexString", "internal/abi.NoEscape", "internal/bytealg.MakeNoZero"], unfollowed := true, recurses := true, named := ["internal/bytealg.MaxLen", "unicode/utf8.first", "unicode/utf8.acceptRanges"], apart := false, laid := [("unicode/utf8.acceptRanges", laid_unicode_utf8_acceptRanges), ("unicode/utf8.first", laid_unicode_utf8_first)] }
def SchemaTellsSaid : Prop := schemaTellsRow.holds Tryd.pinned (OpenSpec.ofChange schemaTellsSpec)

/-- ITS FALSE NEIGHBOUR: 'it returns false'. Refute it at one input. -/
def schemaTellsWrong : ChangeSpec := { name := "schemaTells", fn := fun _ => fun
  | [d1, d2, d3, d4] => { results := [.lit (.bool false)], args := [d1, d2, d3, d4] }
  | _ => none }
def SchemaTellsWrongFalsely : Prop := schemaTellsRow.holds Tryd.pinned (OpenSpec.ofChange schemaTellsWrong)

/-- 'moultlaw14.SchemaFinds': WHATEVER THE INPUT: true; the input reads as it did. -/
def schemaFindsSpec : ChangeSpec := { name := "schemaFinds", fn := fun _ => fun
  | [d1, d2] => { results := [.lit (.bool true)], args := [d1, d2] }
  | _ => none }
def schemaFindsRow : OpenClaim := { program := "ytkbidoikndgheaadoor", sum := "64389ba6793ca2f3bb929202715648736c5b53e7262fc62827e7cbf4922fede9", func := "moult/moultlaw14.SchemaFinds", spec := "schemaFinds", inPlace := ["internal/bytealg.CountString", "internal/bytealg.IndexByteString", "internal/bytealg.IndexString", "internal/abi.NoEscape", "internal/bytealg.MakeNoZero"], unfollowed := true, recurses := true, named := ["internal/bytealg.MaxLen", "unicode/utf8.first", "unicode/utf8.acceptRanges"], apart := false, laid := [("unicode/utf8.acceptRanges", laid_unicode_utf8_acceptRanges), ("unicode/utf8.first", laid_unicode_utf8_first)] }
def SchemaFindsSaid : Prop := schemaFindsRow.holds Tryd.pinned (OpenSpec.ofChange schemaFindsSpec)

/-- ITS FALSE NEIGHBOUR: 'it returns false'. Refute it at one input. -/
def schemaFindsWrong : ChangeSpec := { name := "schemaFinds", fn := fun _ => fun
  | [d1, d2] => { results := [.lit (.bool false)], args := [d1, d2] }
  | _ => none }
def SchemaFindsWrongFalsely : Prop := schemaFindsRow.holds Tryd.pinned (OpenSpec.ofChange schemaFindsWrong)

/-- 'moultlaw14.SchemaPacks': WHATEVER THE INPUT: true; the input reads as it did. -/
def schemaPacksSpec : ChangeSpec := { name := "schemaPacks", fn := fun _ => fun
  | [d1, d2, d3, d4] => { results := [.lit (.bool true)], args := [d1, d2, d3, d4] }
  | _ => none }
def schemaPacksRow : OpenClaim := { program := "ytkbidoikndgheaadoor", sum := "64389ba6793ca2f3bb929202715648736c5b53e7262fc62827e7cbf4922fede9", func := "moult/moultlaw14.SchemaPacks", spec := "schemaPacks", inPlace := ["internal/bytealg.CountString", "internal/bytealg.IndexByteString", "internal/bytealg.IndexString", "internal/abi.NoEscape", "internal/bytealg.MakeNoZero"], unfollowed := true, recurses := true, named := ["internal/bytealg.MaxLen", "unicode/utf8.first", "unicode/utf8.acceptRanges"], apart := false, laid := [("unicode/utf8.acceptRanges", laid_unicode_utf8_acceptRanges), ("unicode/utf8.first", laid_unicode_utf8_first)] }
def SchemaPacksSaid : Prop := schemaPacksRow.holds Tryd.pinned (OpenSpec.ofChange schemaPacksSpec)

/-- ITS FALSE NEIGHBOUR: 'it returns false'. Refute it at one input. -/
def schemaPacksWrong : ChangeSpec := { name := "schemaPacks", fn := fun _ => fun
  | [d1, d2, d3, d4] => { results := [.lit (.bool false)], args := [d1, d2, d3, d4] }
  | _ => none }
def SchemaPacksWrongFalsely : Prop := schemaPacksRow.holds Tryd.pinned (OpenSpec.ofChange schemaPacksWrong)

/-- 'moultlaw14.SchemaBack': WHATEVER THE INPUT: true; the input reads as it did. -/
def schemaBackSpec : ChangeSpec := { name := "schemaBack", fn := fun _ => fun
  | [d1, d2, d3, d4] => { results := [.lit (.bool true)], args := [d1, d2, d3, d4] }
  | _ => none }
def schemaBackRow : OpenClaim := { program := "ytkbidoikndgheaadoor", sum := "64389ba6793ca2f3bb929202715648736c5b53e7262fc62827e7cbf4922fede9", func := "moult/moultlaw14.SchemaBack", spec := "schemaBack", inPlace := ["internal/bytealg.CountString", "internal/bytealg.IndexByteString", "internal/bytealg.IndexString", "internal/abi.NoEscape", "internal/bytealg.MakeNoZero"], unfollowed := true, recurses := true, named := ["internal/bytealg.MaxLen", "unicode/utf8.first", "unicode/utf8.acceptRanges"], apart := false, laid := [("unicode/utf8.acceptRanges", laid_unicode_utf8_acceptRanges), ("unicode/utf8.first", laid_unicode_utf8_first)] }
def SchemaBackSaid : Prop := schemaBackRow.holds Tryd.pinned (OpenSpec.ofChange schemaBackSpec)

/-- ITS FALSE NEIGHBOUR: 'it returns false'. Refute it at one input. -/
def schemaBackWrong : ChangeSpec := { name := "schemaBack", fn := fun _ => fun
  | [d1, d2, d3, d4] => { results := [.lit (.bool false)], args := [d1, d2, d3, d4] }
  | _ => none }
def SchemaBackWrongFalsely : Prop := schemaBackRow.holds Tryd.pinned (OpenSpec.ofChange schemaBackWrong)

/- THE SECOND FORM. 'bulk': how many values and letters a reading holds, each counted each time it is reached (what is shared counts as often as it is met; a slice's spare places count too). A statement '..UptoSaid' is the law's where the arguments, and the package variables that the reading takes, are together of bulk at most 1048576: NARROWER than '..Said'. Prove '..Said' where nothing that the law and all that it calls make is longer than what came in: it says more and counts as full. Else prove '..UptoSaid'. A law counts once. -/
mutual
def uptoBulk {H : Type} : DataW H → Nat
  | .lit (.string bytes) => bytes.length + 1
  | .lit _ => 1
  | .nil => 1
  | .ptr d => uptoBulk d + 1
  | .slice elems spare => uptoBulkAll elems + uptoBulkAll spare + 1
  | .agg parts => uptoBulkAll parts + 1
  | .iface _ d => uptoBulk d + 1
  | .map entries => uptoBulkEntries entries + 1
  | .held _ => 1
def uptoBulkAll {H : Type} : List (DataW H) → Nat
  | [] => 0
  | d :: r => uptoBulk d + uptoBulkAll r
def uptoBulkEntries {H : Type} : List (Lit × DataW H) → Nat
  | [] => 0
  | x :: r => uptoBulkEntry x + uptoBulkEntries r
def uptoBulkEntry {H : Type} : Lit × DataW H → Nat
  | (.string bytes, d) => bytes.length + uptoBulk d + 1
  | (_, d) => uptoBulk d + 1
 end
def uptoSmall : (H : Type) → List (DataW H) → Bool := fun _ ds => decide (uptoBulkAll ds ≤ 1048576)
def OpenSpec.upto (s : _root_.Go.ChangeSpec) : _root_.Go.OpenSpec := { _root_.Go.OpenSpec.ofChange s with cond := some uptoSmall }

/-- 'moultlaw16.ChainResolves', WHERE WHAT IT READS IS OF BULK AT MOST 1048576: true; the input reads as it did. -/
def chainResolvesUptoRow : OpenClaim := { program := "ytkbidoikndgheaadoor", sum := "64389ba6793ca2f3bb929202715648736c5b53e7262fc62827e7cbf4922fede9", func := "moult/moultlaw16.ChainResolves", spec := "chainResolves", inPlace := ["internal/bytealg.IndexByteString", "internal/bytealg.IndexString"], unfollowed := true, recurses := true, named := ["unicode/utf8.first", "unicode/utf8.acceptRanges", "internal/bytealg.MaxLen"], apart := false, laid := [("unicode/utf8.acceptRanges", laid_unicode_utf8_acceptRanges), ("unicode/utf8.first", laid_unicode_utf8_first)], narrowed := true }
def ChainResolvesUptoSaid : Prop := chainResolvesUptoRow.holds Tryd.pinned (OpenSpec.upto chainResolvesSpec)

/-- 'moultlaw16.ChainComposes', WHERE WHAT IT READS IS OF BULK AT MOST 1048576: true; the input reads as it did. -/
def chainComposesUptoRow : OpenClaim := { program := "ytkbidoikndgheaadoor", sum := "64389ba6793ca2f3bb929202715648736c5b53e7262fc62827e7cbf4922fede9", func := "moult/moultlaw16.ChainComposes", spec := "chainComposes", inPlace := ["internal/bytealg.IndexByteString", "internal/bytealg.IndexString"], unfollowed := true, recurses := true, named := ["unicode/utf8.first", "unicode/utf8.acceptRanges", "internal/bytealg.MaxLen"], apart := false, laid := [("unicode/utf8.acceptRanges", laid_unicode_utf8_acceptRanges), ("unicode/utf8.first", laid_unicode_utf8_first)], narrowed := true }
def ChainComposesUptoSaid : Prop := chainComposesUptoRow.holds Tryd.pinned (OpenSpec.upto chainComposesSpec)

/-- 'moultlaw16.ChainLengthens', WHERE WHAT IT READS IS OF BULK AT MOST 1048576: true; the input reads as it did. -/
def chainLengthensUptoRow : OpenClaim := { program := "ytkbidoikndgheaadoor", sum := "64389ba6793ca2f3bb929202715648736c5b53e7262fc62827e7cbf4922fede9", func := "moult/moultlaw16.ChainLengthens", spec := "chainLengthens", inPlace := ["internal/bytealg.IndexByteString", "internal/bytealg.IndexString"], unfollowed := true, recurses := true, named := ["unicode/utf8.first", "unicode/utf8.acceptRanges", "internal/bytealg.MaxLen"], apart := false, laid := [("unicode/utf8.acceptRanges", laid_unicode_utf8_acceptRanges), ("unicode/utf8.first", laid_unicode_utf8_first)], narrowed := true }
def ChainLengthensUptoSaid : Prop := chainLengthensUptoRow.holds Tryd.pinned (OpenSpec.upto chainLengthensSpec)

/-- 'moultlaw16.ChainIDs', WHERE WHAT IT READS IS OF BULK AT MOST 1048576: true; the input reads as it did. -/
def chainIDsUptoRow : OpenClaim := { program := "ytkbidoikndgheaadoor", sum := "64389ba6793ca2f3bb929202715648736c5b53e7262fc62827e7cbf4922fede9", func := "moult/moultlaw16.ChainIDs", spec := "chainIDs", inPlace := ["internal/bytealg.IndexByteString", "internal/bytealg.IndexString"], unfollowed := true, recurses := true, named := ["unicode/utf8.first", "unicode/utf8.acceptRanges", "internal/bytealg.MaxLen"], apart := false, laid := [("unicode/utf8.acceptRanges", laid_unicode_utf8_acceptRanges), ("unicode/utf8.first", laid_unicode_utf8_first)], narrowed := true }
def ChainIDsUptoSaid : Prop := chainIDsUptoRow.holds Tryd.pinned (OpenSpec.upto chainIDsSpec)

/-- 'moultlaw16.ChainPlays', WHERE WHAT IT READS IS OF BULK AT MOST 1048576: true; the input reads as it did. -/
def chainPlaysUptoRow : OpenClaim := { program := "ytkbidoikndgheaadoor", sum := "64389ba6793ca2f3bb929202715648736c5b53e7262fc62827e7cbf4922fede9", func := "moult/moultlaw16.ChainPlays", spec := "chainPlays", inPlace := ["internal/bytealg.IndexByteString", "internal/bytealg.IndexString"], unfollowed := true, recurses := true, named := ["unicode/utf8.first", "unicode/utf8.acceptRanges", "internal/bytealg.MaxLen"], apart := false, laid := [("unicode/utf8.acceptRanges", laid_unicode_utf8_acceptRanges), ("unicode/utf8.first", laid_unicode_utf8_first)], narrowed := true }
def ChainPlaysUptoSaid : Prop := chainPlaysUptoRow.holds Tryd.pinned (OpenSpec.upto chainPlaysSpec)

/-- 'moultlaw16.ChainRetires', WHERE WHAT IT READS IS OF BULK AT MOST 1048576: true; the input reads as it did. -/
def chainRetiresUptoRow : OpenClaim := { program := "ytkbidoikndgheaadoor", sum := "64389ba6793ca2f3bb929202715648736c5b53e7262fc62827e7cbf4922fede9", func := "moult/moultlaw16.ChainRetires", spec := "chainRetires", inPlace := ["internal/bytealg.IndexByteString", "internal/bytealg.IndexString"], unfollowed := true, recurses := true, named := ["unicode/utf8.first", "unicode/utf8.acceptRanges", "internal/bytealg.MaxLen"], apart := false, laid := [("unicode/utf8.acceptRanges", laid_unicode_utf8_acceptRanges), ("unicode/utf8.first", laid_unicode_utf8_first)], narrowed := true }
def ChainRetiresUptoSaid : Prop := chainRetiresUptoRow.holds Tryd.pinned (OpenSpec.upto chainRetiresSpec)

/-- 'moultlaw14.SchemaRows', WHERE WHAT IT READS IS OF BULK AT MOST 1048576: true; the input reads as it did. -/
def schemaRowsUptoRow : OpenClaim := { program := "ytkbidoikndgheaadoor", sum := "64389ba6793ca2f3bb929202715648736c5b53e7262fc62827e7cbf4922fede9", func := "moult/moultlaw14.SchemaRows", spec := "schemaRows", inPlace := ["internal/bytealg.CountString", "internal/bytealg.IndexByteString", "internal/bytealg.IndexString", "internal/abi.NoEscape", "internal/bytealg.MakeNoZero"], unfollowed := true, recurses := true, named := ["internal/bytealg.MaxLen", "unicode/utf8.first", "unicode/utf8.acceptRanges"], apart := false, laid := [("unicode/utf8.acceptRanges", laid_unicode_utf8_acceptRanges), ("unicode/utf8.first", laid_unicode_utf8_first)], narrowed := true }
def SchemaRowsUptoSaid : Prop := schemaRowsUptoRow.holds Tryd.pinned (OpenSpec.upto schemaRowsSpec)

/-- 'moultlaw14.SchemaFits', WHERE WHAT IT READS IS OF BULK AT MOST 1048576: true; the input reads as it did. -/
def schemaFitsUptoRow : OpenClaim := { program := "ytkbidoikndgheaadoor", sum := "64389ba6793ca2f3bb929202715648736c5b53e7262fc62827e7cbf4922fede9", func := "moult/moultlaw14.SchemaFits", spec := "schemaFits", inPlace := ["internal/bytealg.CountString", "internal/bytealg.IndexByteString", "internal/bytealg.IndexString", "internal/abi.NoEscape", "internal/bytealg.MakeNoZero"], unfollowed := true, recurses := true, named := ["internal/bytealg.MaxLen", "unicode/utf8.first", "unicode/utf8.acceptRanges"], apart := false, laid := [("unicode/utf8.acceptRanges", laid_unicode_utf8_acceptRanges), ("unicode/utf8.first", laid_unicode_utf8_first)], narrowed := true }
def SchemaFitsUptoSaid : Prop := schemaFitsUptoRow.holds Tryd.pinned (OpenSpec.upto schemaFitsSpec)

/-- 'moultlaw14.SchemaTells', WHERE WHAT IT READS IS OF BULK AT MOST 1048576: true; the input reads as it did. -/
def schemaTellsUptoRow : OpenClaim := { program := "ytkbidoikndgheaadoor", sum := "64389ba6793ca2f3bb929202715648736c5b53e7262fc62827e7cbf4922fede9", func := "moult/moultlaw14.SchemaTells", spec := "schemaTells", inPlace := ["internal/bytealg.CountString", "internal/bytealg.IndexByteString", "internal/bytealg.IndexString", "internal/abi.NoEscape", "internal/bytealg.MakeNoZero"], unfollowed := true, recurses := true, named := ["internal/bytealg.MaxLen", "unicode/utf8.first", "unicode/utf8.acceptRanges"], apart := false, laid := [("unicode/utf8.acceptRanges", laid_unicode_utf8_acceptRanges), ("unicode/utf8.first", laid_unicode_utf8_first)], narrowed := true }
def SchemaTellsUptoSaid : Prop := schemaTellsUptoRow.holds Tryd.pinned (OpenSpec.upto schemaTellsSpec)

/-- 'moultlaw14.SchemaFinds', WHERE WHAT IT READS IS OF BULK AT MOST 1048576: true; the input reads as it did. -/
def schemaFindsUptoRow : OpenClaim := { program := "ytkbidoikndgheaadoor", sum := "64389ba6793ca2f3bb929202715648736c5b53e7262fc62827e7cbf4922fede9", func := "moult/moultlaw14.SchemaFinds", spec := "schemaFinds", inPlace := ["internal/bytealg.CountString", "internal/bytealg.IndexByteString", "internal/bytealg.IndexString", "internal/abi.NoEscape", "internal/bytealg.MakeNoZero"], unfollowed := true, recurses := true, named := ["internal/bytealg.MaxLen", "unicode/utf8.first", "unicode/utf8.acceptRanges"], apart := false, laid := [("unicode/utf8.acceptRanges", laid_unicode_utf8_acceptRanges), ("unicode/utf8.first", laid_unicode_utf8_first)], narrowed := true }
def SchemaFindsUptoSaid : Prop := schemaFindsUptoRow.holds Tryd.pinned (OpenSpec.upto schemaFindsSpec)

/-- 'moultlaw14.SchemaPacks', WHERE WHAT IT READS IS OF BULK AT MOST 1048576: true; the input reads as it did. -/
def schemaPacksUptoRow : OpenClaim := { program := "ytkbidoikndgheaadoor", sum := "64389ba6793ca2f3bb929202715648736c5b53e7262fc62827e7cbf4922fede9", func := "moult/moultlaw14.SchemaPacks", spec := "schemaPacks", inPlace := ["internal/bytealg.CountString", "internal/bytealg.IndexByteString", "internal/bytealg.IndexString", "internal/abi.NoEscape", "internal/bytealg.MakeNoZero"], unfollowed := true, recurses := true, named := ["internal/bytealg.MaxLen", "unicode/utf8.first", "unicode/utf8.acceptRanges"], apart := false, laid := [("unicode/utf8.acceptRanges", laid_unicode_utf8_acceptRanges), ("unicode/utf8.first", laid_unicode_utf8_first)], narrowed := true }
def SchemaPacksUptoSaid : Prop := schemaPacksUptoRow.holds Tryd.pinned (OpenSpec.upto schemaPacksSpec)

/-- 'moultlaw14.SchemaBack', WHERE WHAT IT READS IS OF BULK AT MOST 1048576: true; the input reads as it did. -/
def schemaBackUptoRow : OpenClaim := { program := "ytkbidoikndgheaadoor", sum := "64389ba6793ca2f3bb929202715648736c5b53e7262fc62827e7cbf4922fede9", func := "moult/moultlaw14.SchemaBack", spec := "schemaBack", inPlace := ["internal/bytealg.CountString", "internal/bytealg.IndexByteString", "internal/bytealg.IndexString", "internal/abi.NoEscape", "internal/bytealg.MakeNoZero"], unfollowed := true, recurses := true, named := ["internal/bytealg.MaxLen", "unicode/utf8.first", "unicode/utf8.acceptRanges"], apart := false, laid := [("unicode/utf8.acceptRanges", laid_unicode_utf8_acceptRanges), ("unicode/utf8.first", laid_unicode_utf8_first)], narrowed := true }
def SchemaBackUptoSaid : Prop := schemaBackUptoRow.holds Tryd.pinned (OpenSpec.upto schemaBackSpec)

end Rows
end Go.Proofs.YtkbidoikndgheaaDoor
