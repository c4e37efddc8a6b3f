/-
  No cell of these rows narrows 'for every input' (looked for: loops, veiled, ifaces, maps, wideKeys, modest, calm, conditions, laid).
  DERIVED. THE GIVEN ROWS OF THIS SEAT. 21 by the template 'for every input the law returns true; each argument reads behind the call as it read before'; 0 by the template 'total and deterministic' (their statements: YtpgeogdmjgmimaaTotals.lean).
  GIVEN WITH THE SEED: the statements are not yours to turn. If you find one false, say at which input.
  Laid BY PROGRAM, IN A SANDBOX (cutbox-rows.mjs): the forced cells as the released guide's own fill.sh prints them over the translation 66185276078eda93… (all of the seat's roots in one cut). By AI agents, Wed Nov 11 2026. No macro, syntax, notation, axiom, sorry.
-/
import Derived.Test.YtpgeogdmjgmimaaChecked
import GoSem.Claim
import GoSem.ClaimJoined
import GoSem.ClaimMapViews
import Derived.JoinedTies
import Derived.KernelRfl
namespace Go.Proofs.Ytpgeogdmjgmimaa
/- THE CELL 'sum', in the pinned program and in every row, IS THE sha256 OF THE DUMP (.gsa) THAT YtpgeogdmjgmimaaProg.lean LOADS. Nothing in Lean hashes anything: it is a label: what it is worth is what the hold of that sum in a sandbox is worth. -/
noncomputable def Try.pinned : Pinned := { name := "ytpgeogdmjgmimaa", sum := "66185276078eda9390aaba08d5f1dab3294c7b85b6df72d16ea5609905e96f21", checked := Try.checked }
namespace Rows
def none {H : Type} : Left H := { results := [], args := [] }

/-- 'reelkeeperlaw08.StreamParts': WHATEVER THE INPUT: true; the input reads as it did. -/
def streamPartsSpec : ChangeSpec := { name := "streamParts", fn := fun _ => fun
  | [d1, d2] => { results := [.lit (.bool true)], args := [d1, d2] }
  | _ => none }
def streamPartsRow : OpenClaim := { program := "ytpgeogdmjgmimaa", sum := "66185276078eda9390aaba08d5f1dab3294c7b85b6df72d16ea5609905e96f21", func := "reelkeeper/reelkeeperlaw08.StreamParts", spec := "streamParts", inPlace := ["internal/bytealg.IndexByteString", "internal/bytealg.IndexString"], unfollowed := true, recurses := true, named := ["internal/bytealg.MaxLen"], apart := false }
def StreamPartsSaid : Prop := streamPartsRow.holds Try.pinned (OpenSpec.ofChange streamPartsSpec)

/-- ITS FALSE NEIGHBOUR: 'it returns false'. Refute it at one input. -/
def streamPartsWrong : ChangeSpec := { name := "streamParts", fn := fun _ => fun
  | [d1, d2] => { results := [.lit (.bool false)], args := [d1, d2] }
  | _ => none }
def StreamPartsWrongFalsely : Prop := streamPartsRow.holds Try.pinned (OpenSpec.ofChange streamPartsWrong)

/-- 'reelkeeperlaw08.StreamApart': WHATEVER THE INPUT: true; the input reads as it did. -/
def streamApartSpec : ChangeSpec := { name := "streamApart", fn := fun _ => fun
  | [d1, d2] => { results := [.lit (.bool true)], args := [d1, d2] }
  | _ => none }
def streamApartRow : OpenClaim := { program := "ytpgeogdmjgmimaa", sum := "66185276078eda9390aaba08d5f1dab3294c7b85b6df72d16ea5609905e96f21", func := "reelkeeper/reelkeeperlaw08.StreamApart", spec := "streamApart", inPlace := ["internal/bytealg.IndexByteString", "internal/bytealg.IndexString"], unfollowed := true, recurses := true, named := ["internal/bytealg.MaxLen"], apart := false }
def StreamApartSaid : Prop := streamApartRow.holds Try.pinned (OpenSpec.ofChange streamApartSpec)

/-- ITS FALSE NEIGHBOUR: 'it returns false'. Refute it at one input. -/
def streamApartWrong : ChangeSpec := { name := "streamApart", fn := fun _ => fun
  | [d1, d2] => { results := [.lit (.bool false)], args := [d1, d2] }
  | _ => none }
def StreamApartWrongFalsely : Prop := streamApartRow.holds Try.pinned (OpenSpec.ofChange streamApartWrong)

/-- 'reelkeeperlaw05.LongBack': WHATEVER THE INPUT: true; the input reads as it did. -/
def longBackSpec : ChangeSpec := { name := "longBack", fn := fun _ => fun
  | [d1, d2] => { results := [.lit (.bool true)], args := [d1, d2] }
  | _ => none }
def longBackRow : OpenClaim := { program := "ytpgeogdmjgmimaa", sum := "66185276078eda9390aaba08d5f1dab3294c7b85b6df72d16ea5609905e96f21", func := "reelkeeper/reelkeeperlaw05.LongBack", spec := "longBack", inPlace := ["internal/bytealg.IndexByteString", "internal/bytealg.IndexString", "internal/bytealg.IndexByte", "internal/bytealg.Index"], unfollowed := true, recurses := true, named := ["internal/bytealg.MaxLen"], apart := false }
def LongBackSaid : Prop := longBackRow.holds Try.pinned (OpenSpec.ofChange longBackSpec)

/-- ITS FALSE NEIGHBOUR: 'it returns false'. Refute it at one input. -/
def longBackWrong : ChangeSpec := { name := "longBack", fn := fun _ => fun
  | [d1, d2] => { results := [.lit (.bool false)], args := [d1, d2] }
  | _ => none }
def LongBackWrongFalsely : Prop := longBackRow.holds Try.pinned (OpenSpec.ofChange longBackWrong)

/-- 'reelkeeperlaw07.EntryFirst': WHATEVER THE INPUT: true; the input reads as it did. -/
def entryFirstSpec : ChangeSpec := { name := "entryFirst", fn := fun _ => fun
  | [d] => { results := [.lit (.bool true)], args := [d] }
  | _ => none }
def entryFirstRow : OpenClaim := { program := "ytpgeogdmjgmimaa", sum := "66185276078eda9390aaba08d5f1dab3294c7b85b6df72d16ea5609905e96f21", func := "reelkeeper/reelkeeperlaw07.EntryFirst", spec := "entryFirst", inPlace := ["internal/bytealg.IndexByteString", "internal/bytealg.IndexString", "internal/bytealg.IndexByte", "internal/bytealg.Index"], unfollowed := true, recurses := true, named := ["internal/bytealg.MaxLen"], apart := false }
def EntryFirstSaid : Prop := entryFirstRow.holds Try.pinned (OpenSpec.ofChange entryFirstSpec)

/-- ITS FALSE NEIGHBOUR: 'it returns false'. Refute it at one input. -/
def entryFirstWrong : ChangeSpec := { name := "entryFirst", fn := fun _ => fun
  | [d] => { results := [.lit (.bool false)], args := [d] }
  | _ => none }
def EntryFirstWrongFalsely : Prop := entryFirstRow.holds Try.pinned (OpenSpec.ofChange entryFirstWrong)

/-- 'reelkeeperlaw07.EntryHead': WHATEVER THE INPUT: true; the input reads as it did. -/
def entryHeadSpec : ChangeSpec := { name := "entryHead", fn := fun _ => fun
  | [d] => { results := [.lit (.bool true)], args := [d] }
  | _ => none }
def entryHeadRow : OpenClaim := { program := "ytpgeogdmjgmimaa", sum := "66185276078eda9390aaba08d5f1dab3294c7b85b6df72d16ea5609905e96f21", func := "reelkeeper/reelkeeperlaw07.EntryHead", spec := "entryHead", inPlace := ["internal/bytealg.IndexByteString", "internal/bytealg.IndexString", "internal/bytealg.IndexByte", "internal/bytealg.Index"], unfollowed := true, recurses := true, named := ["internal/bytealg.MaxLen"], apart := false }
def EntryHeadSaid : Prop := entryHeadRow.holds Try.pinned (OpenSpec.ofChange entryHeadSpec)

/-- ITS FALSE NEIGHBOUR: 'it returns false'. Refute it at one input. -/
def entryHeadWrong : ChangeSpec := { name := "entryHead", fn := fun _ => fun
  | [d] => { results := [.lit (.bool false)], args := [d] }
  | _ => none }
def EntryHeadWrongFalsely : Prop := entryHeadRow.holds Try.pinned (OpenSpec.ofChange entryHeadWrong)

/-- 'reelkeeperlaw15.ContTells': WHATEVER THE INPUT: true; the input reads as it did. -/
def contTellsSpec : ChangeSpec := { name := "contTells", fn := fun _ => fun
  | [d1, d2, d3] => { results := [.lit (.bool true)], args := [d1, d2, d3] }
  | _ => none }
def contTellsRow : OpenClaim := { program := "ytpgeogdmjgmimaa", sum := "66185276078eda9390aaba08d5f1dab3294c7b85b6df72d16ea5609905e96f21", func := "reelkeeper/reelkeeperlaw15.ContTells", spec := "contTells", inPlace := ["internal/bytealg.IndexByteString", "internal/bytealg.IndexString", "internal/bytealg.IndexByte", "internal/bytealg.Index"], unfollowed := true, recurses := true, named := ["internal/bytealg.MaxLen"], apart := false }
def ContTellsSaid : Prop := contTellsRow.holds Try.pinned (OpenSpec.ofChange contTellsSpec)

/-- ITS FALSE NEIGHBOUR: 'it returns false'. Refute it at one input. -/
def contTellsWrong : ChangeSpec := { name := "contTells", fn := fun _ => fun
  | [d1, d2, d3] => { results := [.lit (.bool false)], args := [d1, d2, d3] }
  | _ => none }
def ContTellsWrongFalsely : Prop := contTellsRow.holds Try.pinned (OpenSpec.ofChange contTellsWrong)

/-- 'reelkeeperlaw15.ContHead': WHATEVER THE INPUT: true; the input reads as it did. -/
def contHeadSpec : ChangeSpec := { name := "contHead", fn := fun _ => fun
  | [d1, d2] => { results := [.lit (.bool true)], args := [d1, d2] }
  | _ => none }
def contHeadRow : OpenClaim := { program := "ytpgeogdmjgmimaa", sum := "66185276078eda9390aaba08d5f1dab3294c7b85b6df72d16ea5609905e96f21", func := "reelkeeper/reelkeeperlaw15.ContHead", spec := "contHead", inPlace := ["internal/bytealg.IndexByteString", "internal/bytealg.IndexString", "internal/bytealg.IndexByte", "internal/bytealg.Index"], unfollowed := true, recurses := true, named := ["internal/bytealg.MaxLen"], apart := false }
def ContHeadSaid : Prop := contHeadRow.holds Try.pinned (OpenSpec.ofChange contHeadSpec)

/-- ITS FALSE NEIGHBOUR: 'it returns false'. Refute it at one input. -/
def contHeadWrong : ChangeSpec := { name := "contHead", fn := fun _ => fun
  | [d1, d2] => { results := [.lit (.bool false)], args := [d1, d2] }
  | _ => none }
def ContHeadWrongFalsely : Prop := contHeadRow.holds Try.pinned (OpenSpec.ofChange contHeadWrong)

/-- 'reelkeeperlaw15.ContGot': WHATEVER THE INPUT: true; the input reads as it did. -/
def contGotSpec : ChangeSpec := { name := "contGot", fn := fun _ => fun
  | [d] => { results := [.lit (.bool true)], args := [d] }
  | _ => none }
def contGotRow : OpenClaim := { program := "ytpgeogdmjgmimaa", sum := "66185276078eda9390aaba08d5f1dab3294c7b85b6df72d16ea5609905e96f21", func := "reelkeeper/reelkeeperlaw15.ContGot", spec := "contGot", inPlace := ["internal/bytealg.IndexByteString", "internal/bytealg.IndexString", "internal/bytealg.IndexByte", "internal/bytealg.Index"], unfollowed := true, recurses := true, named := ["internal/bytealg.MaxLen"], apart := false }
def ContGotSaid : Prop := contGotRow.holds Try.pinned (OpenSpec.ofChange contGotSpec)

/-- ITS FALSE NEIGHBOUR: 'it returns false'. Refute it at one input. -/
def contGotWrong : ChangeSpec := { name := "contGot", fn := fun _ => fun
  | [d] => { results := [.lit (.bool false)], args := [d] }
  | _ => none }
def ContGotWrongFalsely : Prop := contGotRow.holds Try.pinned (OpenSpec.ofChange contGotWrong)

/-- 'reelkeeperlaw15.ContApart': WHATEVER THE INPUT: true; the input reads as it did. -/
def contApartSpec : ChangeSpec := { name := "contApart", fn := fun _ => fun
  | [d1, d2, d3, d4] => { results := [.lit (.bool true)], args := [d1, d2, d3, d4] }
  | _ => none }
def contApartRow : OpenClaim := { program := "ytpgeogdmjgmimaa", sum := "66185276078eda9390aaba08d5f1dab3294c7b85b6df72d16ea5609905e96f21", func := "reelkeeper/reelkeeperlaw15.ContApart", spec := "contApart", inPlace := ["internal/bytealg.IndexByteString", "internal/bytealg.IndexString", "internal/bytealg.IndexByte", "internal/bytealg.Index"], unfollowed := true, recurses := true, named := ["internal/bytealg.MaxLen"], apart := false }
def ContApartSaid : Prop := contApartRow.holds Try.pinned (OpenSpec.ofChange contApartSpec)

/-- ITS FALSE NEIGHBOUR: 'it returns false'. Refute it at one input. -/
def contApartWrong : ChangeSpec := { name := "contApart", fn := fun _ => fun
  | [d1, d2, d3, d4] => { results := [.lit (.bool false)], args := [d1, d2, d3, d4] }
  | _ => none }
def ContApartWrongFalsely : Prop := contApartRow.holds Try.pinned (OpenSpec.ofChange contApartWrong)

/-- 'reelkeeperlaw15.ContPlaces': WHATEVER THE INPUT: true; the input reads as it did. -/
def contPlacesSpec : ChangeSpec := { name := "contPlaces", fn := fun _ => fun
  | [d1, d2] => { results := [.lit (.bool true)], args := [d1, d2] }
  | _ => none }
def contPlacesRow : OpenClaim := { program := "ytpgeogdmjgmimaa", sum := "66185276078eda9390aaba08d5f1dab3294c7b85b6df72d16ea5609905e96f21", func := "reelkeeper/reelkeeperlaw15.ContPlaces", spec := "contPlaces", inPlace := ["internal/bytealg.IndexByteString", "internal/bytealg.IndexString", "internal/bytealg.IndexByte", "internal/bytealg.Index"], unfollowed := true, recurses := true, named := ["internal/bytealg.MaxLen"], apart := false }
def ContPlacesSaid : Prop := contPlacesRow.holds Try.pinned (OpenSpec.ofChange contPlacesSpec)

/-- ITS FALSE NEIGHBOUR: 'it returns false'. Refute it at one input. -/
def contPlacesWrong : ChangeSpec := { name := "contPlaces", fn := fun _ => fun
  | [d1, d2] => { results := [.lit (.bool false)], args := [d1, d2] }
  | _ => none }
def ContPlacesWrongFalsely : Prop := contPlacesRow.holds Try.pinned (OpenSpec.ofChange contPlacesWrong)

/-- 'reelkeeperlaw15.ContBack': WHATEVER THE INPUT: true; the input reads as it did. -/
def contBackSpec : ChangeSpec := { name := "contBack", fn := fun _ => fun
  | [d1, d2, d3] => { results := [.lit (.bool true)], args := [d1, d2, d3] }
  | _ => none }
def contBackRow : OpenClaim := { program := "ytpgeogdmjgmimaa", sum := "66185276078eda9390aaba08d5f1dab3294c7b85b6df72d16ea5609905e96f21", func := "reelkeeper/reelkeeperlaw15.ContBack", spec := "contBack", inPlace := ["internal/bytealg.IndexByteString", "internal/bytealg.IndexString", "internal/bytealg.IndexByte", "internal/bytealg.Index"], unfollowed := true, recurses := true, named := ["internal/bytealg.MaxLen"], apart := false }
def ContBackSaid : Prop := contBackRow.holds Try.pinned (OpenSpec.ofChange contBackSpec)

/-- ITS FALSE NEIGHBOUR: 'it returns false'. Refute it at one input. -/
def contBackWrong : ChangeSpec := { name := "contBack", fn := fun _ => fun
  | [d1, d2, d3] => { results := [.lit (.bool false)], args := [d1, d2, d3] }
  | _ => none }
def ContBackWrongFalsely : Prop := contBackRow.holds Try.pinned (OpenSpec.ofChange contBackWrong)

/-- 'reelkeeperlaw09.ParseStays': WHATEVER THE INPUT: true; the input reads as it did. -/
def parseStaysSpec : ChangeSpec := { name := "parseStays", fn := fun _ => fun
  | [d1, d2] => { results := [.lit (.bool true)], args := [d1, d2] }
  | _ => none }
def parseStaysRow : OpenClaim := { program := "ytpgeogdmjgmimaa", sum := "66185276078eda9390aaba08d5f1dab3294c7b85b6df72d16ea5609905e96f21", func := "reelkeeper/reelkeeperlaw09.ParseStays", spec := "parseStays", inPlace := ["internal/bytealg.IndexByteString", "internal/bytealg.IndexString", "internal/bytealg.IndexByte", "internal/bytealg.Index"], unfollowed := true, recurses := true, named := ["internal/bytealg.MaxLen"], apart := false }
def ParseStaysSaid : Prop := parseStaysRow.holds Try.pinned (OpenSpec.ofChange parseStaysSpec)

/-- ITS FALSE NEIGHBOUR: 'it returns false'. Refute it at one input. -/
def parseStaysWrong : ChangeSpec := { name := "parseStays", fn := fun _ => fun
  | [d1, d2] => { results := [.lit (.bool false)], args := [d1, d2] }
  | _ => none }
def ParseStaysWrongFalsely : Prop := parseStaysRow.holds Try.pinned (OpenSpec.ofChange parseStaysWrong)

/-- 'reelkeeperlaw09.ParseSafe': WHATEVER THE INPUT: true; the input reads as it did. -/
def parseSafeSpec : ChangeSpec := { name := "parseSafe", fn := fun _ => fun
  | [d1, d2] => { results := [.lit (.bool true)], args := [d1, d2] }
  | _ => none }
def parseSafeRow : OpenClaim := { program := "ytpgeogdmjgmimaa", sum := "66185276078eda9390aaba08d5f1dab3294c7b85b6df72d16ea5609905e96f21", func := "reelkeeper/reelkeeperlaw09.ParseSafe", spec := "parseSafe", inPlace := ["internal/bytealg.IndexByteString", "internal/bytealg.IndexString", "internal/bytealg.IndexByte", "internal/bytealg.Index"], unfollowed := true, recurses := true, named := ["internal/bytealg.MaxLen"], apart := false }
def ParseSafeSaid : Prop := parseSafeRow.holds Try.pinned (OpenSpec.ofChange parseSafeSpec)

/-- ITS FALSE NEIGHBOUR: 'it returns false'. Refute it at one input. -/
def parseSafeWrong : ChangeSpec := { name := "parseSafe", fn := fun _ => fun
  | [d1, d2] => { results := [.lit (.bool false)], args := [d1, d2] }
  | _ => none }
def ParseSafeWrongFalsely : Prop := parseSafeRow.holds Try.pinned (OpenSpec.ofChange parseSafeWrong)

/-- 'reelkeeperlaw09.ParseLeft': WHATEVER THE INPUT: true; the input reads as it did. -/
def parseLeftSpec : ChangeSpec := { name := "parseLeft", fn := fun _ => fun
  | [d1, d2] => { results := [.lit (.bool true)], args := [d1, d2] }
  | _ => none }
def parseLeftRow : OpenClaim := { program := "ytpgeogdmjgmimaa", sum := "66185276078eda9390aaba08d5f1dab3294c7b85b6df72d16ea5609905e96f21", func := "reelkeeper/reelkeeperlaw09.ParseLeft", spec := "parseLeft", inPlace := ["internal/bytealg.IndexByteString", "internal/bytealg.IndexString", "internal/bytealg.IndexByte", "internal/bytealg.Index"], unfollowed := true, recurses := true, named := ["internal/bytealg.MaxLen"], apart := false }
def ParseLeftSaid : Prop := parseLeftRow.holds Try.pinned (OpenSpec.ofChange parseLeftSpec)

/-- ITS FALSE NEIGHBOUR: 'it returns false'. Refute it at one input. -/
def parseLeftWrong : ChangeSpec := { name := "parseLeft", fn := fun _ => fun
  | [d1, d2] => { results := [.lit (.bool false)], args := [d1, d2] }
  | _ => none }
def ParseLeftWrongFalsely : Prop := parseLeftRow.holds Try.pinned (OpenSpec.ofChange parseLeftWrong)

/-- 'reelkeeperlaw09.ParseParts': WHATEVER THE INPUT: true; the input reads as it did. -/
def parsePartsSpec : ChangeSpec := { name := "parseParts", fn := fun _ => fun
  | [d1, d2, d3] => { results := [.lit (.bool true)], args := [d1, d2, d3] }
  | _ => none }
def parsePartsRow : OpenClaim := { program := "ytpgeogdmjgmimaa", sum := "66185276078eda9390aaba08d5f1dab3294c7b85b6df72d16ea5609905e96f21", func := "reelkeeper/reelkeeperlaw09.ParseParts", spec := "parseParts", inPlace := ["internal/bytealg.IndexByteString", "internal/bytealg.IndexString", "internal/bytealg.IndexByte", "internal/bytealg.Index"], unfollowed := true, recurses := true, named := ["internal/bytealg.MaxLen"], apart := false }
def ParsePartsSaid : Prop := parsePartsRow.holds Try.pinned (OpenSpec.ofChange parsePartsSpec)

/-- ITS FALSE NEIGHBOUR: 'it returns false'. Refute it at one input. -/
def parsePartsWrong : ChangeSpec := { name := "parseParts", fn := fun _ => fun
  | [d1, d2, d3] => { results := [.lit (.bool false)], args := [d1, d2, d3] }
  | _ => none }
def ParsePartsWrongFalsely : Prop := parsePartsRow.holds Try.pinned (OpenSpec.ofChange parsePartsWrong)

/-- 'reelkeeperlaw10.ReadSafe': WHATEVER THE INPUT: true; the input reads as it did. -/
def readSafeSpec : ChangeSpec := { name := "readSafe", fn := fun _ => fun
  | [d] => { results := [.lit (.bool true)], args := [d] }
  | _ => none }
def readSafeRow : OpenClaim := { program := "ytpgeogdmjgmimaa", sum := "66185276078eda9390aaba08d5f1dab3294c7b85b6df72d16ea5609905e96f21", func := "reelkeeper/reelkeeperlaw10.ReadSafe", spec := "readSafe", inPlace := ["internal/bytealg.IndexByteString", "internal/bytealg.IndexString", "internal/bytealg.IndexByte", "internal/bytealg.Index"], unfollowed := true, recurses := true, named := ["internal/bytealg.MaxLen"], apart := false }
def ReadSafeSaid : Prop := readSafeRow.holds Try.pinned (OpenSpec.ofChange readSafeSpec)

/-- ITS FALSE NEIGHBOUR: 'it returns false'. Refute it at one input. -/
def readSafeWrong : ChangeSpec := { name := "readSafe", fn := fun _ => fun
  | [d] => { results := [.lit (.bool false)], args := [d] }
  | _ => none }
def ReadSafeWrongFalsely : Prop := readSafeRow.holds Try.pinned (OpenSpec.ofChange readSafeWrong)

/-- 'reelkeeperlaw10.ReadGoes': WHATEVER THE INPUT: true; the input reads as it did. -/
def readGoesSpec : ChangeSpec := { name := "readGoes", fn := fun _ => fun
  | [d1, d2] => { results := [.lit (.bool true)], args := [d1, d2] }
  | _ => none }
def readGoesRow : OpenClaim := { program := "ytpgeogdmjgmimaa", sum := "66185276078eda9390aaba08d5f1dab3294c7b85b6df72d16ea5609905e96f21", func := "reelkeeper/reelkeeperlaw10.ReadGoes", spec := "readGoes", inPlace := ["internal/bytealg.IndexByteString", "internal/bytealg.IndexString", "internal/bytealg.IndexByte", "internal/bytealg.Index"], unfollowed := true, recurses := true, named := ["internal/bytealg.MaxLen"], apart := false }
def ReadGoesSaid : Prop := readGoesRow.holds Try.pinned (OpenSpec.ofChange readGoesSpec)

/-- ITS FALSE NEIGHBOUR: 'it returns false'. Refute it at one input. -/
def readGoesWrong : ChangeSpec := { name := "readGoes", fn := fun _ => fun
  | [d1, d2] => { results := [.lit (.bool false)], args := [d1, d2] }
  | _ => none }
def ReadGoesWrongFalsely : Prop := readGoesRow.holds Try.pinned (OpenSpec.ofChange readGoesWrong)

/-- 'reelkeeperlaw10.ReadGathers': WHATEVER THE INPUT: true; the input reads as it did. -/
def readGathersSpec : ChangeSpec := { name := "readGathers", fn := fun _ => fun
  | [d1, d2] => { results := [.lit (.bool true)], args := [d1, d2] }
  | _ => none }
def readGathersRow : OpenClaim := { program := "ytpgeogdmjgmimaa", sum := "66185276078eda9390aaba08d5f1dab3294c7b85b6df72d16ea5609905e96f21", func := "reelkeeper/reelkeeperlaw10.ReadGathers", spec := "readGathers", inPlace := ["internal/bytealg.IndexByteString", "internal/bytealg.IndexString", "internal/bytealg.IndexByte", "internal/bytealg.Index"], unfollowed := true, recurses := true, named := ["internal/bytealg.MaxLen"], apart := false }
def ReadGathersSaid : Prop := readGathersRow.holds Try.pinned (OpenSpec.ofChange readGathersSpec)

/-- ITS FALSE NEIGHBOUR: 'it returns false'. Refute it at one input. -/
def readGathersWrong : ChangeSpec := { name := "readGathers", fn := fun _ => fun
  | [d1, d2] => { results := [.lit (.bool false)], args := [d1, d2] }
  | _ => none }
def ReadGathersWrongFalsely : Prop := readGathersRow.holds Try.pinned (OpenSpec.ofChange readGathersWrong)

/-- 'reelkeeperlaw09.ParseNode': WHATEVER THE INPUT: true; the input reads as it did. -/
def parseNodeSpec : ChangeSpec := { name := "parseNode", fn := fun _ => fun
  | [d] => { results := [.lit (.bool true)], args := [d] }
  | _ => none }
def parseNodeRow : OpenClaim := { program := "ytpgeogdmjgmimaa", sum := "66185276078eda9390aaba08d5f1dab3294c7b85b6df72d16ea5609905e96f21", func := "reelkeeper/reelkeeperlaw09.ParseNode", spec := "parseNode", inPlace := ["internal/bytealg.IndexByteString", "internal/bytealg.IndexString", "internal/bytealg.IndexByte", "internal/bytealg.Index"], unfollowed := true, recurses := true, named := ["internal/bytealg.MaxLen"], apart := false }
def ParseNodeSaid : Prop := parseNodeRow.holds Try.pinned (OpenSpec.ofChange parseNodeSpec)

/-- ITS FALSE NEIGHBOUR: 'it returns false'. Refute it at one input. -/
def parseNodeWrong : ChangeSpec := { name := "parseNode", fn := fun _ => fun
  | [d] => { results := [.lit (.bool false)], args := [d] }
  | _ => none }
def ParseNodeWrongFalsely : Prop := parseNodeRow.holds Try.pinned (OpenSpec.ofChange parseNodeWrong)

/-- 'reelkeeperlaw09.ParseTypes': WHATEVER THE INPUT: true; the input reads as it did. -/
def parseTypesSpec : ChangeSpec := { name := "parseTypes", fn := fun _ => fun
  | [d1, d2] => { results := [.lit (.bool true)], args := [d1, d2] }
  | _ => none }
def parseTypesRow : OpenClaim := { program := "ytpgeogdmjgmimaa", sum := "66185276078eda9390aaba08d5f1dab3294c7b85b6df72d16ea5609905e96f21", func := "reelkeeper/reelkeeperlaw09.ParseTypes", spec := "parseTypes", inPlace := ["internal/bytealg.IndexByteString", "internal/bytealg.IndexString", "internal/bytealg.IndexByte", "internal/bytealg.Index"], unfollowed := true, recurses := true, named := ["internal/bytealg.MaxLen"], apart := false }
def ParseTypesSaid : Prop := parseTypesRow.holds Try.pinned (OpenSpec.ofChange parseTypesSpec)

/-- ITS FALSE NEIGHBOUR: 'it returns false'. Refute it at one input. -/
def parseTypesWrong : ChangeSpec := { name := "parseTypes", fn := fun _ => fun
  | [d1, d2] => { results := [.lit (.bool false)], args := [d1, d2] }
  | _ => none }
def ParseTypesWrongFalsely : Prop := parseTypesRow.holds Try.pinned (OpenSpec.ofChange parseTypesWrong)

/-- 'reelkeeperlaw09.ParseEnds': WHATEVER THE INPUT: true; the input reads as it did. -/
def parseEndsSpec : ChangeSpec := { name := "parseEnds", fn := fun _ => fun
  | [d1, d2] => { results := [.lit (.bool true)], args := [d1, d2] }
  | _ => none }
def parseEndsRow : OpenClaim := { program := "ytpgeogdmjgmimaa", sum := "66185276078eda9390aaba08d5f1dab3294c7b85b6df72d16ea5609905e96f21", func := "reelkeeper/reelkeeperlaw09.ParseEnds", spec := "parseEnds", inPlace := ["internal/bytealg.IndexByteString", "internal/bytealg.IndexString", "internal/bytealg.IndexByte", "internal/bytealg.Index"], unfollowed := true, recurses := true, named := ["internal/bytealg.MaxLen"], apart := false }
def ParseEndsSaid : Prop := parseEndsRow.holds Try.pinned (OpenSpec.ofChange parseEndsSpec)

/-- ITS FALSE NEIGHBOUR: 'it returns false'. Refute it at one input. -/
def parseEndsWrong : ChangeSpec := { name := "parseEnds", fn := fun _ => fun
  | [d1, d2] => { results := [.lit (.bool false)], args := [d1, d2] }
  | _ => none }
def ParseEndsWrongFalsely : Prop := parseEndsRow.holds Try.pinned (OpenSpec.ofChange parseEndsWrong)

/- THE SECOND FORM. 'bulk': how many values and letters a reading holds, each counted each time it is reached (what is shared counts as often as it is met; a slice's spare places count too). A statement '..UptoSaid' is the law's where the arguments, and the package variables that the reading takes, are together of bulk at most 1048576: NARROWER than '..Said'. Prove '..Said' where nothing that the law and all that it calls make is longer than what came in: it says more and counts as full. Else prove '..UptoSaid'. A law counts once. -/
mutual
def uptoBulk {H : Type} : DataW H → Nat
  | .lit (.string bytes) => bytes.length + 1
  | .lit _ => 1
  | .nil => 1
  | .ptr d => uptoBulk d + 1
  | .slice elems spare => uptoBulkAll elems + uptoBulkAll spare + 1
  | .agg parts => uptoBulkAll parts + 1
  | .iface _ d => uptoBulk d + 1
  | .map entries => uptoBulkEntries entries + 1
  | .held _ => 1
def uptoBulkAll {H : Type} : List (DataW H) → Nat
  | [] => 0
  | d :: r => uptoBulk d + uptoBulkAll r
def uptoBulkEntries {H : Type} : List (Lit × DataW H) → Nat
  | [] => 0
  | x :: r => uptoBulkEntry x + uptoBulkEntries r
def uptoBulkEntry {H : Type} : Lit × DataW H → Nat
  | (.string bytes, d) => bytes.length + uptoBulk d + 1
  | (_, d) => uptoBulk d + 1
 end
def uptoSmall : (H : Type) → List (DataW H) → Bool := fun _ ds => decide (uptoBulkAll ds ≤ 1048576)
def OpenSpec.upto (s : _root_.Go.ChangeSpec) : _root_.Go.OpenSpec := { _root_.Go.OpenSpec.ofChange s with cond := some uptoSmall }

/-- 'reelkeeperlaw08.StreamParts', WHERE WHAT IT READS IS OF BULK AT MOST 1048576: true; the input reads as it did. -/
def streamPartsUptoRow : OpenClaim := { program := "ytpgeogdmjgmimaa", sum := "66185276078eda9390aaba08d5f1dab3294c7b85b6df72d16ea5609905e96f21", func := "reelkeeper/reelkeeperlaw08.StreamParts", spec := "streamParts", inPlace := ["internal/bytealg.IndexByteString", "internal/bytealg.IndexString"], unfollowed := true, recurses := true, named := ["internal/bytealg.MaxLen"], apart := false, narrowed := true }
def StreamPartsUptoSaid : Prop := streamPartsUptoRow.holds Try.pinned (OpenSpec.upto streamPartsSpec)

/-- 'reelkeeperlaw08.StreamApart', WHERE WHAT IT READS IS OF BULK AT MOST 1048576: true; the input reads as it did. -/
def streamApartUptoRow : OpenClaim := { program := "ytpgeogdmjgmimaa", sum := "66185276078eda9390aaba08d5f1dab3294c7b85b6df72d16ea5609905e96f21", func := "reelkeeper/reelkeeperlaw08.StreamApart", spec := "streamApart", inPlace := ["internal/bytealg.IndexByteString", "internal/bytealg.IndexString"], unfollowed := true, recurses := true, named := ["internal/bytealg.MaxLen"], apart := false, narrowed := true }
def StreamApartUptoSaid : Prop := streamApartUptoRow.holds Try.pinned (OpenSpec.upto streamApartSpec)

/-- 'reelkeeperlaw05.LongBack', WHERE WHAT IT READS IS OF BULK AT MOST 1048576: true; the input reads as it did. -/
def longBackUptoRow : OpenClaim := { program := "ytpgeogdmjgmimaa", sum := "66185276078eda9390aaba08d5f1dab3294c7b85b6df72d16ea5609905e96f21", func := "reelkeeper/reelkeeperlaw05.LongBack", spec := "longBack", inPlace := ["internal/bytealg.IndexByteString", "internal/bytealg.IndexString", "internal/bytealg.IndexByte", "internal/bytealg.Index"], unfollowed := true, recurses := true, named := ["internal/bytealg.MaxLen"], apart := false, narrowed := true }
def LongBackUptoSaid : Prop := longBackUptoRow.holds Try.pinned (OpenSpec.upto longBackSpec)

/-- 'reelkeeperlaw07.EntryFirst', WHERE WHAT IT READS IS OF BULK AT MOST 1048576: true; the input reads as it did. -/
def entryFirstUptoRow : OpenClaim := { program := "ytpgeogdmjgmimaa", sum := "66185276078eda9390aaba08d5f1dab3294c7b85b6df72d16ea5609905e96f21", func := "reelkeeper/reelkeeperlaw07.EntryFirst", spec := "entryFirst", inPlace := ["internal/bytealg.IndexByteString", "internal/bytealg.IndexString", "internal/bytealg.IndexByte", "internal/bytealg.Index"], unfollowed := true, recurses := true, named := ["internal/bytealg.MaxLen"], apart := false, narrowed := true }
def EntryFirstUptoSaid : Prop := entryFirstUptoRow.holds Try.pinned (OpenSpec.upto entryFirstSpec)

/-- 'reelkeeperlaw07.EntryHead', WHERE WHAT IT READS IS OF BULK AT MOST 1048576: true; the input reads as it did. -/
def entryHeadUptoRow : OpenClaim := { program := "ytpgeogdmjgmimaa", sum := "66185276078eda9390aaba08d5f1dab3294c7b85b6df72d16ea5609905e96f21", func := "reelkeeper/reelkeeperlaw07.EntryHead", spec := "entryHead", inPlace := ["internal/bytealg.IndexByteString", "internal/bytealg.IndexString", "internal/bytealg.IndexByte", "internal/bytealg.Index"], unfollowed := true, recurses := true, named := ["internal/bytealg.MaxLen"], apart := false, narrowed := true }
def EntryHeadUptoSaid : Prop := entryHeadUptoRow.holds Try.pinned (OpenSpec.upto entryHeadSpec)

/-- 'reelkeeperlaw15.ContTells', WHERE WHAT IT READS IS OF BULK AT MOST 1048576: true; the input reads as it did. -/
def contTellsUptoRow : OpenClaim := { program := "ytpgeogdmjgmimaa", sum := "66185276078eda9390aaba08d5f1dab3294c7b85b6df72d16ea5609905e96f21", func := "reelkeeper/reelkeeperlaw15.ContTells", spec := "contTells", inPlace := ["internal/bytealg.IndexByteString", "internal/bytealg.IndexString", "internal/bytealg.IndexByte", "internal/bytealg.Index"], unfollowed := true, recurses := true, named := ["internal/bytealg.MaxLen"], apart := false, narrowed := true }
def ContTellsUptoSaid : Prop := contTellsUptoRow.holds Try.pinned (OpenSpec.upto contTellsSpec)

/-- 'reelkeeperlaw15.ContHead', WHERE WHAT IT READS IS OF BULK AT MOST 1048576: true; the input reads as it did. -/
def contHeadUptoRow : OpenClaim := { program := "ytpgeogdmjgmimaa", sum := "66185276078eda9390aaba08d5f1dab3294c7b85b6df72d16ea5609905e96f21", func := "reelkeeper/reelkeeperlaw15.ContHead", spec := "contHead", inPlace := ["internal/bytealg.IndexByteString", "internal/bytealg.IndexString", "internal/bytealg.IndexByte", "internal/bytealg.Index"], unfollowed := true, recurses := true, named := ["internal/bytealg.MaxLen"], apart := false, narrowed := true }
def ContHeadUptoSaid : Prop := contHeadUptoRow.holds Try.pinned (OpenSpec.upto contHeadSpec)

/-- 'reelkeeperlaw15.ContGot', WHERE WHAT IT READS IS OF BULK AT MOST 1048576: true; the input reads as it did. -/
def contGotUptoRow : OpenClaim := { program := "ytpgeogdmjgmimaa", sum := "66185276078eda9390aaba08d5f1dab3294c7b85b6df72d16ea5609905e96f21", func := "reelkeeper/reelkeeperlaw15.ContGot", spec := "contGot", inPlace := ["internal/bytealg.IndexByteString", "internal/bytealg.IndexString", "internal/bytealg.IndexByte", "internal/bytealg.Index"], unfollowed := true, recurses := true, named := ["internal/bytealg.MaxLen"], apart := false, narrowed := true }
def ContGotUptoSaid : Prop := contGotUptoRow.holds Try.pinned (OpenSpec.upto contGotSpec)

/-- 'reelkeeperlaw15.ContApart', WHERE WHAT IT READS IS OF BULK AT MOST 1048576: true; the input reads as it did. -/
def contApartUptoRow : OpenClaim := { program := "ytpgeogdmjgmimaa", sum := "66185276078eda9390aaba08d5f1dab3294c7b85b6df72d16ea5609905e96f21", func := "reelkeeper/reelkeeperlaw15.ContApart", spec := "contApart", inPlace := ["internal/bytealg.IndexByteString", "internal/bytealg.IndexString", "internal/bytealg.IndexByte", "internal/bytealg.Index"], unfollowed := true, recurses := true, named := ["internal/bytealg.MaxLen"], apart := false, narrowed := true }
def ContApartUptoSaid : Prop := contApartUptoRow.holds Try.pinned (OpenSpec.upto contApartSpec)

/-- 'reelkeeperlaw15.ContPlaces', WHERE WHAT IT READS IS OF BULK AT MOST 1048576: true; the input reads as it did. -/
def contPlacesUptoRow : OpenClaim := { program := "ytpgeogdmjgmimaa", sum := "66185276078eda9390aaba08d5f1dab3294c7b85b6df72d16ea5609905e96f21", func := "reelkeeper/reelkeeperlaw15.ContPlaces", spec := "contPlaces", inPlace := ["internal/bytealg.IndexByteString", "internal/bytealg.IndexString", "internal/bytealg.IndexByte", "internal/bytealg.Index"], unfollowed := true, recurses := true, named := ["internal/bytealg.MaxLen"], apart := false, narrowed := true }
def ContPlacesUptoSaid : Prop := contPlacesUptoRow.holds Try.pinned (OpenSpec.upto contPlacesSpec)

/-- 'reelkeeperlaw15.ContBack', WHERE WHAT IT READS IS OF BULK AT MOST 1048576: true; the input reads as it did. -/
def contBackUptoRow : OpenClaim := { program := "ytpgeogdmjgmimaa", sum := "66185276078eda9390aaba08d5f1dab3294c7b85b6df72d16ea5609905e96f21", func := "reelkeeper/reelkeeperlaw15.ContBack", spec := "contBack", inPlace := ["internal/bytealg.IndexByteString", "internal/bytealg.IndexString", "internal/bytealg.IndexByte", "internal/bytealg.Index"], unfollowed := true, recurses := true, named := ["internal/bytealg.MaxLen"], apart := false, narrowed := true }
def ContBackUptoSaid : Prop := contBackUptoRow.holds Try.pinned (OpenSpec.upto contBackSpec)

/-- 'reelkeeperlaw09.ParseStays', WHERE WHAT IT READS IS OF BULK AT MOST 1048576: true; the input reads as it did. -/
def parseStaysUptoRow : OpenClaim := { program := "ytpgeogdmjgmimaa", sum := "66185276078eda9390aaba08d5f1dab3294c7b85b6df72d16ea5609905e96f21", func := "reelkeeper/reelkeeperlaw09.ParseStays", spec := "parseStays", inPlace := ["internal/bytealg.IndexByteString", "internal/bytealg.IndexString", "internal/bytealg.IndexByte", "internal/bytealg.Index"], unfollowed := true, recurses := true, named := ["internal/bytealg.MaxLen"], apart := false, narrowed := true }
def ParseStaysUptoSaid : Prop := parseStaysUptoRow.holds Try.pinned (OpenSpec.upto parseStaysSpec)

/-- 'reelkeeperlaw09.ParseSafe', WHERE WHAT IT READS IS OF BULK AT MOST 1048576: true; the input reads as it did. -/
def parseSafeUptoRow : OpenClaim := { program := "ytpgeogdmjgmimaa", sum := "66185276078eda9390aaba08d5f1dab3294c7b85b6df72d16ea5609905e96f21", func := "reelkeeper/reelkeeperlaw09.ParseSafe", spec := "parseSafe", inPlace := ["internal/bytealg.IndexByteString", "internal/bytealg.IndexString", "internal/bytealg.IndexByte", "internal/bytealg.Index"], unfollowed := true, recurses := true, named := ["internal/bytealg.MaxLen"], apart := false, narrowed := true }
def ParseSafeUptoSaid : Prop := parseSafeUptoRow.holds Try.pinned (OpenSpec.upto parseSafeSpec)

/-- 'reelkeeperlaw09.ParseLeft', WHERE WHAT IT READS IS OF BULK AT MOST 1048576: true; the input reads as it did. -/
def parseLeftUptoRow : OpenClaim := { program := "ytpgeogdmjgmimaa", sum := "66185276078eda9390aaba08d5f1dab3294c7b85b6df72d16ea5609905e96f21", func := "reelkeeper/reelkeeperlaw09.ParseLeft", spec := "parseLeft", inPlace := ["internal/bytealg.IndexByteString", "internal/bytealg.IndexString", "internal/bytealg.IndexByte", "internal/bytealg.Index"], unfollowed := true, recurses := true, named := ["internal/bytealg.MaxLen"], apart := false, narrowed := true }
def ParseLeftUptoSaid : Prop := parseLeftUptoRow.holds Try.pinned (OpenSpec.upto parseLeftSpec)

/-- 'reelkeeperlaw09.ParseParts', WHERE WHAT IT READS IS OF BULK AT MOST 1048576: true; the input reads as it did. -/
def parsePartsUptoRow : OpenClaim := { program := "ytpgeogdmjgmimaa", sum := "66185276078eda9390aaba08d5f1dab3294c7b85b6df72d16ea5609905e96f21", func := "reelkeeper/reelkeeperlaw09.ParseParts", spec := "parseParts", inPlace := ["internal/bytealg.IndexByteString", "internal/bytealg.IndexString", "internal/bytealg.IndexByte", "internal/bytealg.Index"], unfollowed := true, recurses := true, named := ["internal/bytealg.MaxLen"], apart := false, narrowed := true }
def ParsePartsUptoSaid : Prop := parsePartsUptoRow.holds Try.pinned (OpenSpec.upto parsePartsSpec)

/-- 'reelkeeperlaw10.ReadSafe', WHERE WHAT IT READS IS OF BULK AT MOST 1048576: true; the input reads as it did. -/
def readSafeUptoRow : OpenClaim := { program := "ytpgeogdmjgmimaa", sum := "66185276078eda9390aaba08d5f1dab3294c7b85b6df72d16ea5609905e96f21", func := "reelkeeper/reelkeeperlaw10.ReadSafe", spec := "readSafe", inPlace := ["internal/bytealg.IndexByteString", "internal/bytealg.IndexString", "internal/bytealg.IndexByte", "internal/bytealg.Index"], unfollowed := true, recurses := true, named := ["internal/bytealg.MaxLen"], apart := false, narrowed := true }
def ReadSafeUptoSaid : Prop := readSafeUptoRow.holds Try.pinned (OpenSpec.upto readSafeSpec)

/-- 'reelkeeperlaw10.ReadGoes', WHERE WHAT IT READS IS OF BULK AT MOST 1048576: true; the input reads as it did. -/
def readGoesUptoRow : OpenClaim := { program := "ytpgeogdmjgmimaa", sum := "66185276078eda9390aaba08d5f1dab3294c7b85b6df72d16ea5609905e96f21", func := "reelkeeper/reelkeeperlaw10.ReadGoes", spec := "readGoes", inPlace := ["internal/bytealg.IndexByteString", "internal/bytealg.IndexString", "internal/bytealg.IndexByte", "internal/bytealg.Index"], unfollowed := true, recurses := true, named := ["internal/bytealg.MaxLen"], apart := false, narrowed := true }
def ReadGoesUptoSaid : Prop := readGoesUptoRow.holds Try.pinned (OpenSpec.upto readGoesSpec)

/-- 'reelkeeperlaw10.ReadGathers', WHERE WHAT IT READS IS OF BULK AT MOST 1048576: true; the input reads as it did. -/
def readGathersUptoRow : OpenClaim := { program := "ytpgeogdmjgmimaa", sum := "66185276078eda9390aaba08d5f1dab3294c7b85b6df72d16ea5609905e96f21", func := "reelkeeper/reelkeeperlaw10.ReadGathers", spec := "readGathers", inPlace := ["internal/bytealg.IndexByteString", "internal/bytealg.IndexString", "internal/bytealg.IndexByte", "internal/bytealg.Index"], unfollowed := true, recurses := true, named := ["internal/bytealg.MaxLen"], apart := false, narrowed := true }
def ReadGathersUptoSaid : Prop := readGathersUptoRow.holds Try.pinned (OpenSpec.upto readGathersSpec)

/-- 'reelkeeperlaw09.ParseNode', WHERE WHAT IT READS IS OF BULK AT MOST 1048576: true; the input reads as it did. -/
def parseNodeUptoRow : OpenClaim := { program := "ytpgeogdmjgmimaa", sum := "66185276078eda9390aaba08d5f1dab3294c7b85b6df72d16ea5609905e96f21", func := "reelkeeper/reelkeeperlaw09.ParseNode", spec := "parseNode", inPlace := ["internal/bytealg.IndexByteString", "internal/bytealg.IndexString", "internal/bytealg.IndexByte", "internal/bytealg.Index"], unfollowed := true, recurses := true, named := ["internal/bytealg.MaxLen"], apart := false, narrowed := true }
def ParseNodeUptoSaid : Prop := parseNodeUptoRow.holds Try.pinned (OpenSpec.upto parseNodeSpec)

/-- 'reelkeeperlaw09.ParseTypes', WHERE WHAT IT READS IS OF BULK AT MOST 1048576: true; the input reads as it did. -/
def parseTypesUptoRow : OpenClaim := { program := "ytpgeogdmjgmimaa", sum := "66185276078eda9390aaba08d5f1dab3294c7b85b6df72d16ea5609905e96f21", func := "reelkeeper/reelkeeperlaw09.ParseTypes", spec := "parseTypes", inPlace := ["internal/bytealg.IndexByteString", "internal/bytealg.IndexString", "internal/bytealg.IndexByte", "internal/bytealg.Index"], unfollowed := true, recurses := true, named := ["internal/bytealg.MaxLen"], apart := false, narrowed := true }
def ParseTypesUptoSaid : Prop := parseTypesUptoRow.holds Try.pinned (OpenSpec.upto parseTypesSpec)

/-- 'reelkeeperlaw09.ParseEnds', WHERE WHAT IT READS IS OF BULK AT MOST 1048576: true; the input reads as it did. -/
def parseEndsUptoRow : OpenClaim := { program := "ytpgeogdmjgmimaa", sum := "66185276078eda9390aaba08d5f1dab3294c7b85b6df72d16ea5609905e96f21", func := "reelkeeper/reelkeeperlaw09.ParseEnds", spec := "parseEnds", inPlace := ["internal/bytealg.IndexByteString", "internal/bytealg.IndexString", "internal/bytealg.IndexByte", "internal/bytealg.Index"], unfollowed := true, recurses := true, named := ["internal/bytealg.MaxLen"], apart := false, narrowed := true }
def ParseEndsUptoSaid : Prop := parseEndsUptoRow.holds Try.pinned (OpenSpec.upto parseEndsSpec)

end Rows
end Go.Proofs.Ytpgeogdmjgmimaa
