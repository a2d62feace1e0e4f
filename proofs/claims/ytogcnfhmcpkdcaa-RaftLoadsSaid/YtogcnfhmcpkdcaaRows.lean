/-
  No cell of these rows narrows 'for every input' (looked for: loops, veiled, ifaces, maps, wideKeys, modest, calm, conditions, laid).
  DERIVED. THE GIVEN ROWS OF THIS SEAT. 22 by the template 'for every input the law returns true; each argument reads behind the call as it read before'; 0 by the template 'total and deterministic' (their statements: YtogcnfhmcpkdcaaTotals.lean).
  GIVEN WITH THE SEED: the statements are not yours to turn. If you find one false, say at which input.
  Laid BY PROGRAM, IN A SANDBOX (cutbox-rows.mjs): the forced cells as the released guide's own fill.sh prints them over the translation 886db01cc28e3655… (all of the seat's roots in one cut). By AI agents, Wed Nov 11 2026. No macro, syntax, notation, axiom, sorry.
-/
import Derived.Test.YtogcnfhmcpkdcaaChecked
import GoSem.Claim
import GoSem.ClaimJoined
import GoSem.ClaimMapViews
import Derived.JoinedTies
import Derived.KernelRfl
namespace Go.Proofs.Ytogcnfhmcpkdcaa
/- THE CELL 'sum', in the pinned program and in every row, IS THE sha256 OF THE DUMP (.gsa) THAT YtogcnfhmcpkdcaaProg.lean LOADS. Nothing in Lean hashes anything: it is a label: what it is worth is what the hold of that sum in a sandbox is worth. -/
noncomputable def Try.pinned : Pinned := { name := "ytogcnfhmcpkdcaa", sum := "886db01cc28e36550303951bb251ff5f0c4625f86792ae05be90476186be7f70", checked := Try.checked }
namespace Rows
def none {H : Type} : Left H := { results := [], args := [] }

/-- 'seisinlaw04.FieldFails': WHATEVER THE INPUT: true; the input reads as it did. -/
def fieldFailsSpec : ChangeSpec := { name := "fieldFails", fn := fun _ => fun
  | [d1, d2, d3] => { results := [.lit (.bool true)], args := [d1, d2, d3] }
  | _ => none }
def fieldFailsRow : OpenClaim := { program := "ytogcnfhmcpkdcaa", sum := "886db01cc28e36550303951bb251ff5f0c4625f86792ae05be90476186be7f70", func := "seisin/seisinlaw04.FieldFails", spec := "fieldFails", unfollowed := true, recurses := true, apart := false }
def FieldFailsSaid : Prop := fieldFailsRow.holds Try.pinned (OpenSpec.ofChange fieldFailsSpec)

/-- ITS FALSE NEIGHBOUR: 'it returns false'. Refute it at one input. -/
def fieldFailsWrong : ChangeSpec := { name := "fieldFails", fn := fun _ => fun
  | [d1, d2, d3] => { results := [.lit (.bool false)], args := [d1, d2, d3] }
  | _ => none }
def FieldFailsWrongFalsely : Prop := fieldFailsRow.holds Try.pinned (OpenSpec.ofChange fieldFailsWrong)

/-- 'seisinlaw04.FieldOne': WHATEVER THE INPUT: true; the input reads as it did. -/
def fieldOneSpec : ChangeSpec := { name := "fieldOne", fn := fun _ => fun
  | [d] => { results := [.lit (.bool true)], args := [d] }
  | _ => none }
def fieldOneRow : OpenClaim := { program := "ytogcnfhmcpkdcaa", sum := "886db01cc28e36550303951bb251ff5f0c4625f86792ae05be90476186be7f70", func := "seisin/seisinlaw04.FieldOne", spec := "fieldOne", unfollowed := true, recurses := true, apart := false }
def FieldOneSaid : Prop := fieldOneRow.holds Try.pinned (OpenSpec.ofChange fieldOneSpec)

/-- ITS FALSE NEIGHBOUR: 'it returns false'. Refute it at one input. -/
def fieldOneWrong : ChangeSpec := { name := "fieldOne", fn := fun _ => fun
  | [d] => { results := [.lit (.bool false)], args := [d] }
  | _ => none }
def FieldOneWrongFalsely : Prop := fieldOneRow.holds Try.pinned (OpenSpec.ofChange fieldOneWrong)

/-- 'seisinlaw17.LineFull': WHATEVER THE INPUT: true; the input reads as it did. -/
def lineFullSpec : ChangeSpec := { name := "lineFull", fn := fun _ => fun
  | [d1, d2] => { results := [.lit (.bool true)], args := [d1, d2] }
  | _ => none }
def lineFullRow : OpenClaim := { program := "ytogcnfhmcpkdcaa", sum := "886db01cc28e36550303951bb251ff5f0c4625f86792ae05be90476186be7f70", func := "seisin/seisinlaw17.LineFull", spec := "lineFull", unfollowed := true, recurses := true, apart := false }
def LineFullSaid : Prop := lineFullRow.holds Try.pinned (OpenSpec.ofChange lineFullSpec)

/-- ITS FALSE NEIGHBOUR: 'it returns false'. Refute it at one input. -/
def lineFullWrong : ChangeSpec := { name := "lineFull", fn := fun _ => fun
  | [d1, d2] => { results := [.lit (.bool false)], args := [d1, d2] }
  | _ => none }
def LineFullWrongFalsely : Prop := lineFullRow.holds Try.pinned (OpenSpec.ofChange lineFullWrong)

/-- 'seisinlaw04.FieldReads': WHATEVER THE INPUT: true; the input reads as it did. -/
def fieldReadsSpec : ChangeSpec := { name := "fieldReads", fn := fun _ => fun
  | [d1, d2] => { results := [.lit (.bool true)], args := [d1, d2] }
  | _ => none }
def fieldReadsRow : OpenClaim := { program := "ytogcnfhmcpkdcaa", sum := "886db01cc28e36550303951bb251ff5f0c4625f86792ae05be90476186be7f70", func := "seisin/seisinlaw04.FieldReads", spec := "fieldReads", unfollowed := true, recurses := true, apart := false }
def FieldReadsSaid : Prop := fieldReadsRow.holds Try.pinned (OpenSpec.ofChange fieldReadsSpec)

/-- ITS FALSE NEIGHBOUR: 'it returns false'. Refute it at one input. -/
def fieldReadsWrong : ChangeSpec := { name := "fieldReads", fn := fun _ => fun
  | [d1, d2] => { results := [.lit (.bool false)], args := [d1, d2] }
  | _ => none }
def FieldReadsWrongFalsely : Prop := fieldReadsRow.holds Try.pinned (OpenSpec.ofChange fieldReadsWrong)

/-- 'seisinlaw09.EntryReads': WHATEVER THE INPUT: true; the input reads as it did. -/
def entryReadsSpec : ChangeSpec := { name := "entryReads", fn := fun _ => fun
  | [d] => { results := [.lit (.bool true)], args := [d] }
  | _ => none }
def entryReadsRow : OpenClaim := { program := "ytogcnfhmcpkdcaa", sum := "886db01cc28e36550303951bb251ff5f0c4625f86792ae05be90476186be7f70", func := "seisin/seisinlaw09.EntryReads", spec := "entryReads", unfollowed := true, recurses := true, apart := false }
def EntryReadsSaid : Prop := entryReadsRow.holds Try.pinned (OpenSpec.ofChange entryReadsSpec)

/-- ITS FALSE NEIGHBOUR: 'it returns false'. Refute it at one input. -/
def entryReadsWrong : ChangeSpec := { name := "entryReads", fn := fun _ => fun
  | [d] => { results := [.lit (.bool false)], args := [d] }
  | _ => none }
def EntryReadsWrongFalsely : Prop := entryReadsRow.holds Try.pinned (OpenSpec.ofChange entryReadsWrong)

/-- 'seisinlaw04.FieldWrites': WHATEVER THE INPUT: true; the input reads as it did. -/
def fieldWritesSpec : ChangeSpec := { name := "fieldWrites", fn := fun _ => fun
  | [d] => { results := [.lit (.bool true)], args := [d] }
  | _ => none }
def fieldWritesRow : OpenClaim := { program := "ytogcnfhmcpkdcaa", sum := "886db01cc28e36550303951bb251ff5f0c4625f86792ae05be90476186be7f70", func := "seisin/seisinlaw04.FieldWrites", spec := "fieldWrites", unfollowed := true, recurses := true, apart := false }
def FieldWritesSaid : Prop := fieldWritesRow.holds Try.pinned (OpenSpec.ofChange fieldWritesSpec)

/-- ITS FALSE NEIGHBOUR: 'it returns false'. Refute it at one input. -/
def fieldWritesWrong : ChangeSpec := { name := "fieldWrites", fn := fun _ => fun
  | [d] => { results := [.lit (.bool false)], args := [d] }
  | _ => none }
def FieldWritesWrongFalsely : Prop := fieldWritesRow.holds Try.pinned (OpenSpec.ofChange fieldWritesWrong)

/-- 'seisinlaw17.LineMatch': WHATEVER THE INPUT: true; the input reads as it did. -/
def lineMatchSpec : ChangeSpec := { name := "lineMatch", fn := fun _ => fun
  | [d1, d2, d3] => { results := [.lit (.bool true)], args := [d1, d2, d3] }
  | _ => none }
def lineMatchRow : OpenClaim := { program := "ytogcnfhmcpkdcaa", sum := "886db01cc28e36550303951bb251ff5f0c4625f86792ae05be90476186be7f70", func := "seisin/seisinlaw17.LineMatch", spec := "lineMatch", unfollowed := true, recurses := true, apart := false }
def LineMatchSaid : Prop := lineMatchRow.holds Try.pinned (OpenSpec.ofChange lineMatchSpec)

/-- ITS FALSE NEIGHBOUR: 'it returns false'. Refute it at one input. -/
def lineMatchWrong : ChangeSpec := { name := "lineMatch", fn := fun _ => fun
  | [d1, d2, d3] => { results := [.lit (.bool false)], args := [d1, d2, d3] }
  | _ => none }
def LineMatchWrongFalsely : Prop := lineMatchRow.holds Try.pinned (OpenSpec.ofChange lineMatchWrong)

/-- 'seisinlaw17.LinePlays': WHATEVER THE INPUT: true; the input reads as it did. -/
def linePlaysSpec : ChangeSpec := { name := "linePlays", fn := fun _ => fun
  | [d1, d2, d3] => { results := [.lit (.bool true)], args := [d1, d2, d3] }
  | _ => none }
def linePlaysRow : OpenClaim := { program := "ytogcnfhmcpkdcaa", sum := "886db01cc28e36550303951bb251ff5f0c4625f86792ae05be90476186be7f70", func := "seisin/seisinlaw17.LinePlays", spec := "linePlays", unfollowed := true, recurses := true, apart := false }
def LinePlaysSaid : Prop := linePlaysRow.holds Try.pinned (OpenSpec.ofChange linePlaysSpec)

/-- ITS FALSE NEIGHBOUR: 'it returns false'. Refute it at one input. -/
def linePlaysWrong : ChangeSpec := { name := "linePlays", fn := fun _ => fun
  | [d1, d2, d3] => { results := [.lit (.bool false)], args := [d1, d2, d3] }
  | _ => none }
def LinePlaysWrongFalsely : Prop := linePlaysRow.holds Try.pinned (OpenSpec.ofChange linePlaysWrong)

/-- 'seisinlaw09.EntryForms': WHATEVER THE INPUT: true; the input reads as it did. -/
def entryFormsSpec : ChangeSpec := { name := "entryForms", fn := fun _ => fun
  | [d] => { results := [.lit (.bool true)], args := [d] }
  | _ => none }
def entryFormsRow : OpenClaim := { program := "ytogcnfhmcpkdcaa", sum := "886db01cc28e36550303951bb251ff5f0c4625f86792ae05be90476186be7f70", func := "seisin/seisinlaw09.EntryForms", spec := "entryForms", unfollowed := true, recurses := true, apart := false }
def EntryFormsSaid : Prop := entryFormsRow.holds Try.pinned (OpenSpec.ofChange entryFormsSpec)

/-- ITS FALSE NEIGHBOUR: 'it returns false'. Refute it at one input. -/
def entryFormsWrong : ChangeSpec := { name := "entryForms", fn := fun _ => fun
  | [d] => { results := [.lit (.bool false)], args := [d] }
  | _ => none }
def EntryFormsWrongFalsely : Prop := entryFormsRow.holds Try.pinned (OpenSpec.ofChange entryFormsWrong)

/-- 'seisinlaw09.EntryOne': WHATEVER THE INPUT: true; the input reads as it did. -/
def entryOneSpec : ChangeSpec := { name := "entryOne", fn := fun _ => fun
  | [d1, d2, d3] => { results := [.lit (.bool true)], args := [d1, d2, d3] }
  | _ => none }
def entryOneRow : OpenClaim := { program := "ytogcnfhmcpkdcaa", sum := "886db01cc28e36550303951bb251ff5f0c4625f86792ae05be90476186be7f70", func := "seisin/seisinlaw09.EntryOne", spec := "entryOne", unfollowed := true, recurses := true, apart := false }
def EntryOneSaid : Prop := entryOneRow.holds Try.pinned (OpenSpec.ofChange entryOneSpec)

/-- ITS FALSE NEIGHBOUR: 'it returns false'. Refute it at one input. -/
def entryOneWrong : ChangeSpec := { name := "entryOne", fn := fun _ => fun
  | [d1, d2, d3] => { results := [.lit (.bool false)], args := [d1, d2, d3] }
  | _ => none }
def EntryOneWrongFalsely : Prop := entryOneRow.holds Try.pinned (OpenSpec.ofChange entryOneWrong)

/-- 'seisinlaw17.LineBytes': WHATEVER THE INPUT: true; the input reads as it did. -/
def lineBytesSpec : ChangeSpec := { name := "lineBytes", fn := fun _ => fun
  | [d1, d2, d3, d4] => { results := [.lit (.bool true)], args := [d1, d2, d3, d4] }
  | _ => none }
def lineBytesRow : OpenClaim := { program := "ytogcnfhmcpkdcaa", sum := "886db01cc28e36550303951bb251ff5f0c4625f86792ae05be90476186be7f70", func := "seisin/seisinlaw17.LineBytes", spec := "lineBytes", unfollowed := true, recurses := true, apart := false }
def LineBytesSaid : Prop := lineBytesRow.holds Try.pinned (OpenSpec.ofChange lineBytesSpec)

/-- ITS FALSE NEIGHBOUR: 'it returns false'. Refute it at one input. -/
def lineBytesWrong : ChangeSpec := { name := "lineBytes", fn := fun _ => fun
  | [d1, d2, d3, d4] => { results := [.lit (.bool false)], args := [d1, d2, d3, d4] }
  | _ => none }
def LineBytesWrongFalsely : Prop := lineBytesRow.holds Try.pinned (OpenSpec.ofChange lineBytesWrong)

/-- 'seisinlaw15.LetterForms': WHATEVER THE INPUT: true; the input reads as it did. -/
def letterFormsSpec : ChangeSpec := { name := "letterForms", fn := fun _ => fun
  | [d] => { results := [.lit (.bool true)], args := [d] }
  | _ => none }
def letterFormsRow : OpenClaim := { program := "ytogcnfhmcpkdcaa", sum := "886db01cc28e36550303951bb251ff5f0c4625f86792ae05be90476186be7f70", func := "seisin/seisinlaw15.LetterForms", spec := "letterForms", unfollowed := true, recurses := true, apart := false }
def LetterFormsSaid : Prop := letterFormsRow.holds Try.pinned (OpenSpec.ofChange letterFormsSpec)

/-- ITS FALSE NEIGHBOUR: 'it returns false'. Refute it at one input. -/
def letterFormsWrong : ChangeSpec := { name := "letterForms", fn := fun _ => fun
  | [d] => { results := [.lit (.bool false)], args := [d] }
  | _ => none }
def LetterFormsWrongFalsely : Prop := letterFormsRow.holds Try.pinned (OpenSpec.ofChange letterFormsWrong)

/-- 'seisinlaw15.LetterReads': WHATEVER THE INPUT: true; the input reads as it did. -/
def letterReadsSpec : ChangeSpec := { name := "letterReads", fn := fun _ => fun
  | [d] => { results := [.lit (.bool true)], args := [d] }
  | _ => none }
def letterReadsRow : OpenClaim := { program := "ytogcnfhmcpkdcaa", sum := "886db01cc28e36550303951bb251ff5f0c4625f86792ae05be90476186be7f70", func := "seisin/seisinlaw15.LetterReads", spec := "letterReads", unfollowed := true, recurses := true, apart := false }
def LetterReadsSaid : Prop := letterReadsRow.holds Try.pinned (OpenSpec.ofChange letterReadsSpec)

/-- ITS FALSE NEIGHBOUR: 'it returns false'. Refute it at one input. -/
def letterReadsWrong : ChangeSpec := { name := "letterReads", fn := fun _ => fun
  | [d] => { results := [.lit (.bool false)], args := [d] }
  | _ => none }
def LetterReadsWrongFalsely : Prop := letterReadsRow.holds Try.pinned (OpenSpec.ofChange letterReadsWrong)

/-- 'seisinlaw15.LetterOne': WHATEVER THE INPUT: true; the input reads as it did. -/
def letterOneSpec : ChangeSpec := { name := "letterOne", fn := fun _ => fun
  | [d] => { results := [.lit (.bool true)], args := [d] }
  | _ => none }
def letterOneRow : OpenClaim := { program := "ytogcnfhmcpkdcaa", sum := "886db01cc28e36550303951bb251ff5f0c4625f86792ae05be90476186be7f70", func := "seisin/seisinlaw15.LetterOne", spec := "letterOne", unfollowed := true, recurses := true, apart := false }
def LetterOneSaid : Prop := letterOneRow.holds Try.pinned (OpenSpec.ofChange letterOneSpec)

/-- ITS FALSE NEIGHBOUR: 'it returns false'. Refute it at one input. -/
def letterOneWrong : ChangeSpec := { name := "letterOne", fn := fun _ => fun
  | [d] => { results := [.lit (.bool false)], args := [d] }
  | _ => none }
def LetterOneWrongFalsely : Prop := letterOneRow.holds Try.pinned (OpenSpec.ofChange letterOneWrong)

/-- 'seisinlaw15.LetterSame': WHATEVER THE INPUT: true; the input reads as it did. -/
def letterSameSpec : ChangeSpec := { name := "letterSame", fn := fun _ => fun
  | [d1, d2] => { results := [.lit (.bool true)], args := [d1, d2] }
  | _ => none }
def letterSameRow : OpenClaim := { program := "ytogcnfhmcpkdcaa", sum := "886db01cc28e36550303951bb251ff5f0c4625f86792ae05be90476186be7f70", func := "seisin/seisinlaw15.LetterSame", spec := "letterSame", unfollowed := true, recurses := true, apart := false }
def LetterSameSaid : Prop := letterSameRow.holds Try.pinned (OpenSpec.ofChange letterSameSpec)

/-- ITS FALSE NEIGHBOUR: 'it returns false'. Refute it at one input. -/
def letterSameWrong : ChangeSpec := { name := "letterSame", fn := fun _ => fun
  | [d1, d2] => { results := [.lit (.bool false)], args := [d1, d2] }
  | _ => none }
def LetterSameWrongFalsely : Prop := letterSameRow.holds Try.pinned (OpenSpec.ofChange letterSameWrong)

/-- 'seisinlaw16.VoteAgreed': WHATEVER THE INPUT: true; the input reads as it did. -/
def voteAgreedSpec : ChangeSpec := { name := "voteAgreed", fn := fun _ => fun
  | [d] => { results := [.lit (.bool true)], args := [d] }
  | _ => none }
def voteAgreedRow : OpenClaim := { program := "ytogcnfhmcpkdcaa", sum := "886db01cc28e36550303951bb251ff5f0c4625f86792ae05be90476186be7f70", func := "seisin/seisinlaw16.VoteAgreed", spec := "voteAgreed", recurses := true, apart := false }
def VoteAgreedSaid : Prop := voteAgreedRow.holds Try.pinned (OpenSpec.ofChange voteAgreedSpec)

/-- ITS FALSE NEIGHBOUR: 'it returns false'. Refute it at one input. -/
def voteAgreedWrong : ChangeSpec := { name := "voteAgreed", fn := fun _ => fun
  | [d] => { results := [.lit (.bool false)], args := [d] }
  | _ => none }
def VoteAgreedWrongFalsely : Prop := voteAgreedRow.holds Try.pinned (OpenSpec.ofChange voteAgreedWrong)

/-- 'seisinlaw16.VoteMeet': WHATEVER THE INPUT: true; the input reads as it did. -/
def voteMeetSpec : ChangeSpec := { name := "voteMeet", fn := fun _ => fun
  | [d1, d2, d3, d4] => { results := [.lit (.bool true)], args := [d1, d2, d3, d4] }
  | _ => none }
def voteMeetRow : OpenClaim := { program := "ytogcnfhmcpkdcaa", sum := "886db01cc28e36550303951bb251ff5f0c4625f86792ae05be90476186be7f70", func := "seisin/seisinlaw16.VoteMeet", spec := "voteMeet", recurses := true, apart := false }
def VoteMeetSaid : Prop := voteMeetRow.holds Try.pinned (OpenSpec.ofChange voteMeetSpec)

/-- ITS FALSE NEIGHBOUR: 'it returns false'. Refute it at one input. -/
def voteMeetWrong : ChangeSpec := { name := "voteMeet", fn := fun _ => fun
  | [d1, d2, d3, d4] => { results := [.lit (.bool false)], args := [d1, d2, d3, d4] }
  | _ => none }
def VoteMeetWrongFalsely : Prop := voteMeetRow.holds Try.pinned (OpenSpec.ofChange voteMeetWrong)

/-- 'seisinlaw16.VoteNew': WHATEVER THE INPUT: true; the input reads as it did. -/
def voteNewSpec : ChangeSpec := { name := "voteNew", fn := fun _ => fun
  | [d1, d2, d3, d4, d5, d6] => { results := [.lit (.bool true)], args := [d1, d2, d3, d4, d5, d6] }
  | _ => none }
def voteNewRow : OpenClaim := { program := "ytogcnfhmcpkdcaa", sum := "886db01cc28e36550303951bb251ff5f0c4625f86792ae05be90476186be7f70", func := "seisin/seisinlaw16.VoteNew", spec := "voteNew", recurses := true, apart := false }
def VoteNewSaid : Prop := voteNewRow.holds Try.pinned (OpenSpec.ofChange voteNewSpec)

/-- ITS FALSE NEIGHBOUR: 'it returns false'. Refute it at one input. -/
def voteNewWrong : ChangeSpec := { name := "voteNew", fn := fun _ => fun
  | [d1, d2, d3, d4, d5, d6] => { results := [.lit (.bool false)], args := [d1, d2, d3, d4, d5, d6] }
  | _ => none }
def VoteNewWrongFalsely : Prop := voteNewRow.holds Try.pinned (OpenSpec.ofChange voteNewWrong)

/-- 'seisinlaw16.VoteTells': WHATEVER THE INPUT: true; the input reads as it did. -/
def voteTellsSpec : ChangeSpec := { name := "voteTells", fn := fun _ => fun
  | [d1, d2, d3, d4, d5, d6, d7, d8] => { results := [.lit (.bool true)], args := [d1, d2, d3, d4, d5, d6, d7, d8] }
  | _ => none }
def voteTellsRow : OpenClaim := { program := "ytogcnfhmcpkdcaa", sum := "886db01cc28e36550303951bb251ff5f0c4625f86792ae05be90476186be7f70", func := "seisin/seisinlaw16.VoteTells", spec := "voteTells", recurses := true, apart := false }
def VoteTellsSaid : Prop := voteTellsRow.holds Try.pinned (OpenSpec.ofChange voteTellsSpec)

/-- ITS FALSE NEIGHBOUR: 'it returns false'. Refute it at one input. -/
def voteTellsWrong : ChangeSpec := { name := "voteTells", fn := fun _ => fun
  | [d1, d2, d3, d4, d5, d6, d7, d8] => { results := [.lit (.bool false)], args := [d1, d2, d3, d4, d5, d6, d7, d8] }
  | _ => none }
def VoteTellsWrongFalsely : Prop := voteTellsRow.holds Try.pinned (OpenSpec.ofChange voteTellsWrong)

/-- 'seisinlaw16.VoteOne': WHATEVER THE INPUT: true; the input reads as it did. -/
def voteOneSpec : ChangeSpec := { name := "voteOne", fn := fun _ => fun
  | [d] => { results := [.lit (.bool true)], args := [d] }
  | _ => none }
def voteOneRow : OpenClaim := { program := "ytogcnfhmcpkdcaa", sum := "886db01cc28e36550303951bb251ff5f0c4625f86792ae05be90476186be7f70", func := "seisin/seisinlaw16.VoteOne", spec := "voteOne", recurses := true, apart := false }
def VoteOneSaid : Prop := voteOneRow.holds Try.pinned (OpenSpec.ofChange voteOneSpec)

/-- ITS FALSE NEIGHBOUR: 'it returns false'. Refute it at one input. -/
def voteOneWrong : ChangeSpec := { name := "voteOne", fn := fun _ => fun
  | [d] => { results := [.lit (.bool false)], args := [d] }
  | _ => none }
def VoteOneWrongFalsely : Prop := voteOneRow.holds Try.pinned (OpenSpec.ofChange voteOneWrong)

/-- 'seisinlaw16.VoteBytes': WHATEVER THE INPUT: true; the input reads as it did. -/
def voteBytesSpec : ChangeSpec := { name := "voteBytes", fn := fun _ => fun
  | [d1, d2] => { results := [.lit (.bool true)], args := [d1, d2] }
  | _ => none }
def voteBytesRow : OpenClaim := { program := "ytogcnfhmcpkdcaa", sum := "886db01cc28e36550303951bb251ff5f0c4625f86792ae05be90476186be7f70", func := "seisin/seisinlaw16.VoteBytes", spec := "voteBytes", unfollowed := true, recurses := true, apart := false }
def VoteBytesSaid : Prop := voteBytesRow.holds Try.pinned (OpenSpec.ofChange voteBytesSpec)

/-- ITS FALSE NEIGHBOUR: 'it returns false'. Refute it at one input. -/
def voteBytesWrong : ChangeSpec := { name := "voteBytes", fn := fun _ => fun
  | [d1, d2] => { results := [.lit (.bool false)], args := [d1, d2] }
  | _ => none }
def VoteBytesWrongFalsely : Prop := voteBytesRow.holds Try.pinned (OpenSpec.ofChange voteBytesWrong)

/-- 'seisinlaw18.RaftLoads': WHATEVER THE INPUT: true; the input reads as it did. -/
def raftLoadsSpec : ChangeSpec := { name := "raftLoads", fn := fun _ => fun
  | [d1, d2] => { results := [.lit (.bool true)], args := [d1, d2] }
  | _ => none }
def raftLoadsRow : OpenClaim := { program := "ytogcnfhmcpkdcaa", sum := "886db01cc28e36550303951bb251ff5f0c4625f86792ae05be90476186be7f70", func := "seisin/seisinlaw18.RaftLoads", spec := "raftLoads", unfollowed := true, recurses := true, apart := false }
def RaftLoadsSaid : Prop := raftLoadsRow.holds Try.pinned (OpenSpec.ofChange raftLoadsSpec)

/-- ITS FALSE NEIGHBOUR: 'it returns false'. Refute it at one input. -/
def raftLoadsWrong : ChangeSpec := { name := "raftLoads", fn := fun _ => fun
  | [d1, d2] => { results := [.lit (.bool false)], args := [d1, d2] }
  | _ => none }
def RaftLoadsWrongFalsely : Prop := raftLoadsRow.holds Try.pinned (OpenSpec.ofChange raftLoadsWrong)

/- THE SECOND FORM. 'bulk': how many values and letters a reading holds, each counted each time it is reached (what is shared counts as often as it is met; a slice's spare places count too). A statement '..UptoSaid' is the law's where the arguments, and the package variables that the reading takes, are together of bulk at most 1048576: NARROWER than '..Said'. Prove '..Said' where nothing that the law and all that it calls make is longer than what came in: it says more and counts as full. Else prove '..UptoSaid'. A law counts once. -/
mutual
def uptoBulk {H : Type} : DataW H → Nat
  | .lit (.string bytes) => bytes.length + 1
  | .lit _ => 1
  | .nil => 1
  | .ptr d => uptoBulk d + 1
  | .slice elems spare => uptoBulkAll elems + uptoBulkAll spare + 1
  | .agg parts => uptoBulkAll parts + 1
  | .iface _ d => uptoBulk d + 1
  | .map entries => uptoBulkEntries entries + 1
  | .held _ => 1
def uptoBulkAll {H : Type} : List (DataW H) → Nat
  | [] => 0
  | d :: r => uptoBulk d + uptoBulkAll r
def uptoBulkEntries {H : Type} : List (Lit × DataW H) → Nat
  | [] => 0
  | x :: r => uptoBulkEntry x + uptoBulkEntries r
def uptoBulkEntry {H : Type} : Lit × DataW H → Nat
  | (.string bytes, d) => bytes.length + uptoBulk d + 1
  | (_, d) => uptoBulk d + 1
 end
def uptoSmall : (H : Type) → List (DataW H) → Bool := fun _ ds => decide (uptoBulkAll ds ≤ 1048576)
def OpenSpec.upto (s : _root_.Go.ChangeSpec) : _root_.Go.OpenSpec := { _root_.Go.OpenSpec.ofChange s with cond := some uptoSmall }

/-- 'seisinlaw04.FieldFails', WHERE WHAT IT READS IS OF BULK AT MOST 1048576: true; the input reads as it did. -/
def fieldFailsUptoRow : OpenClaim := { program := "ytogcnfhmcpkdcaa", sum := "886db01cc28e36550303951bb251ff5f0c4625f86792ae05be90476186be7f70", func := "seisin/seisinlaw04.FieldFails", spec := "fieldFails", unfollowed := true, recurses := true, apart := false, narrowed := true }
def FieldFailsUptoSaid : Prop := fieldFailsUptoRow.holds Try.pinned (OpenSpec.upto fieldFailsSpec)

/-- 'seisinlaw04.FieldOne', WHERE WHAT IT READS IS OF BULK AT MOST 1048576: true; the input reads as it did. -/
def fieldOneUptoRow : OpenClaim := { program := "ytogcnfhmcpkdcaa", sum := "886db01cc28e36550303951bb251ff5f0c4625f86792ae05be90476186be7f70", func := "seisin/seisinlaw04.FieldOne", spec := "fieldOne", unfollowed := true, recurses := true, apart := false, narrowed := true }
def FieldOneUptoSaid : Prop := fieldOneUptoRow.holds Try.pinned (OpenSpec.upto fieldOneSpec)

/-- 'seisinlaw17.LineFull', WHERE WHAT IT READS IS OF BULK AT MOST 1048576: true; the input reads as it did. -/
def lineFullUptoRow : OpenClaim := { program := "ytogcnfhmcpkdcaa", sum := "886db01cc28e36550303951bb251ff5f0c4625f86792ae05be90476186be7f70", func := "seisin/seisinlaw17.LineFull", spec := "lineFull", unfollowed := true, recurses := true, apart := false, narrowed := true }
def LineFullUptoSaid : Prop := lineFullUptoRow.holds Try.pinned (OpenSpec.upto lineFullSpec)

/-- 'seisinlaw04.FieldReads', WHERE WHAT IT READS IS OF BULK AT MOST 1048576: true; the input reads as it did. -/
def fieldReadsUptoRow : OpenClaim := { program := "ytogcnfhmcpkdcaa", sum := "886db01cc28e36550303951bb251ff5f0c4625f86792ae05be90476186be7f70", func := "seisin/seisinlaw04.FieldReads", spec := "fieldReads", unfollowed := true, recurses := true, apart := false, narrowed := true }
def FieldReadsUptoSaid : Prop := fieldReadsUptoRow.holds Try.pinned (OpenSpec.upto fieldReadsSpec)

/-- 'seisinlaw09.EntryReads', WHERE WHAT IT READS IS OF BULK AT MOST 1048576: true; the input reads as it did. -/
def entryReadsUptoRow : OpenClaim := { program := "ytogcnfhmcpkdcaa", sum := "886db01cc28e36550303951bb251ff5f0c4625f86792ae05be90476186be7f70", func := "seisin/seisinlaw09.EntryReads", spec := "entryReads", unfollowed := true, recurses := true, apart := false, narrowed := true }
def EntryReadsUptoSaid : Prop := entryReadsUptoRow.holds Try.pinned (OpenSpec.upto entryReadsSpec)

/-- 'seisinlaw04.FieldWrites', WHERE WHAT IT READS IS OF BULK AT MOST 1048576: true; the input reads as it did. -/
def fieldWritesUptoRow : OpenClaim := { program := "ytogcnfhmcpkdcaa", sum := "886db01cc28e36550303951bb251ff5f0c4625f86792ae05be90476186be7f70", func := "seisin/seisinlaw04.FieldWrites", spec := "fieldWrites", unfollowed := true, recurses := true, apart := false, narrowed := true }
def FieldWritesUptoSaid : Prop := fieldWritesUptoRow.holds Try.pinned (OpenSpec.upto fieldWritesSpec)

/-- 'seisinlaw17.LineMatch', WHERE WHAT IT READS IS OF BULK AT MOST 1048576: true; the input reads as it did. -/
def lineMatchUptoRow : OpenClaim := { program := "ytogcnfhmcpkdcaa", sum := "886db01cc28e36550303951bb251ff5f0c4625f86792ae05be90476186be7f70", func := "seisin/seisinlaw17.LineMatch", spec := "lineMatch", unfollowed := true, recurses := true, apart := false, narrowed := true }
def LineMatchUptoSaid : Prop := lineMatchUptoRow.holds Try.pinned (OpenSpec.upto lineMatchSpec)

/-- 'seisinlaw17.LinePlays', WHERE WHAT IT READS IS OF BULK AT MOST 1048576: true; the input reads as it did. -/
def linePlaysUptoRow : OpenClaim := { program := "ytogcnfhmcpkdcaa", sum := "886db01cc28e36550303951bb251ff5f0c4625f86792ae05be90476186be7f70", func := "seisin/seisinlaw17.LinePlays", spec := "linePlays", unfollowed := true, recurses := true, apart := false, narrowed := true }
def LinePlaysUptoSaid : Prop := linePlaysUptoRow.holds Try.pinned (OpenSpec.upto linePlaysSpec)

/-- 'seisinlaw09.EntryForms', WHERE WHAT IT READS IS OF BULK AT MOST 1048576: true; the input reads as it did. -/
def entryFormsUptoRow : OpenClaim := { program := "ytogcnfhmcpkdcaa", sum := "886db01cc28e36550303951bb251ff5f0c4625f86792ae05be90476186be7f70", func := "seisin/seisinlaw09.EntryForms", spec := "entryForms", unfollowed := true, recurses := true, apart := false, narrowed := true }
def EntryFormsUptoSaid : Prop := entryFormsUptoRow.holds Try.pinned (OpenSpec.upto entryFormsSpec)

/-- 'seisinlaw09.EntryOne', WHERE WHAT IT READS IS OF BULK AT MOST 1048576: true; the input reads as it did. -/
def entryOneUptoRow : OpenClaim := { program := "ytogcnfhmcpkdcaa", sum := "886db01cc28e36550303951bb251ff5f0c4625f86792ae05be90476186be7f70", func := "seisin/seisinlaw09.EntryOne", spec := "entryOne", unfollowed := true, recurses := true, apart := false, narrowed := true }
def EntryOneUptoSaid : Prop := entryOneUptoRow.holds Try.pinned (OpenSpec.upto entryOneSpec)

/-- 'seisinlaw17.LineBytes', WHERE WHAT IT READS IS OF BULK AT MOST 1048576: true; the input reads as it did. -/
def lineBytesUptoRow : OpenClaim := { program := "ytogcnfhmcpkdcaa", sum := "886db01cc28e36550303951bb251ff5f0c4625f86792ae05be90476186be7f70", func := "seisin/seisinlaw17.LineBytes", spec := "lineBytes", unfollowed := true, recurses := true, apart := false, narrowed := true }
def LineBytesUptoSaid : Prop := lineBytesUptoRow.holds Try.pinned (OpenSpec.upto lineBytesSpec)

/-- 'seisinlaw15.LetterForms', WHERE WHAT IT READS IS OF BULK AT MOST 1048576: true; the input reads as it did. -/
def letterFormsUptoRow : OpenClaim := { program := "ytogcnfhmcpkdcaa", sum := "886db01cc28e36550303951bb251ff5f0c4625f86792ae05be90476186be7f70", func := "seisin/seisinlaw15.LetterForms", spec := "letterForms", unfollowed := true, recurses := true, apart := false, narrowed := true }
def LetterFormsUptoSaid : Prop := letterFormsUptoRow.holds Try.pinned (OpenSpec.upto letterFormsSpec)

/-- 'seisinlaw15.LetterReads', WHERE WHAT IT READS IS OF BULK AT MOST 1048576: true; the input reads as it did. -/
def letterReadsUptoRow : OpenClaim := { program := "ytogcnfhmcpkdcaa", sum := "886db01cc28e36550303951bb251ff5f0c4625f86792ae05be90476186be7f70", func := "seisin/seisinlaw15.LetterReads", spec := "letterReads", unfollowed := true, recurses := true, apart := false, narrowed := true }
def LetterReadsUptoSaid : Prop := letterReadsUptoRow.holds Try.pinned (OpenSpec.upto letterReadsSpec)

/-- 'seisinlaw15.LetterOne', WHERE WHAT IT READS IS OF BULK AT MOST 1048576: true; the input reads as it did. -/
def letterOneUptoRow : OpenClaim := { program := "ytogcnfhmcpkdcaa", sum := "886db01cc28e36550303951bb251ff5f0c4625f86792ae05be90476186be7f70", func := "seisin/seisinlaw15.LetterOne", spec := "letterOne", unfollowed := true, recurses := true, apart := false, narrowed := true }
def LetterOneUptoSaid : Prop := letterOneUptoRow.holds Try.pinned (OpenSpec.upto letterOneSpec)

/-- 'seisinlaw15.LetterSame', WHERE WHAT IT READS IS OF BULK AT MOST 1048576: true; the input reads as it did. -/
def letterSameUptoRow : OpenClaim := { program := "ytogcnfhmcpkdcaa", sum := "886db01cc28e36550303951bb251ff5f0c4625f86792ae05be90476186be7f70", func := "seisin/seisinlaw15.LetterSame", spec := "letterSame", unfollowed := true, recurses := true, apart := false, narrowed := true }
def LetterSameUptoSaid : Prop := letterSameUptoRow.holds Try.pinned (OpenSpec.upto letterSameSpec)

/-- 'seisinlaw16.VoteAgreed', WHERE WHAT IT READS IS OF BULK AT MOST 1048576: true; the input reads as it did. -/
def voteAgreedUptoRow : OpenClaim := { program := "ytogcnfhmcpkdcaa", sum := "886db01cc28e36550303951bb251ff5f0c4625f86792ae05be90476186be7f70", func := "seisin/seisinlaw16.VoteAgreed", spec := "voteAgreed", recurses := true, apart := false, narrowed := true }
def VoteAgreedUptoSaid : Prop := voteAgreedUptoRow.holds Try.pinned (OpenSpec.upto voteAgreedSpec)

/-- 'seisinlaw16.VoteMeet', WHERE WHAT IT READS IS OF BULK AT MOST 1048576: true; the input reads as it did. -/
def voteMeetUptoRow : OpenClaim := { program := "ytogcnfhmcpkdcaa", sum := "886db01cc28e36550303951bb251ff5f0c4625f86792ae05be90476186be7f70", func := "seisin/seisinlaw16.VoteMeet", spec := "voteMeet", recurses := true, apart := false, narrowed := true }
def VoteMeetUptoSaid : Prop := voteMeetUptoRow.holds Try.pinned (OpenSpec.upto voteMeetSpec)

/-- 'seisinlaw16.VoteNew', WHERE WHAT IT READS IS OF BULK AT MOST 1048576: true; the input reads as it did. -/
def voteNewUptoRow : OpenClaim := { program := "ytogcnfhmcpkdcaa", sum := "886db01cc28e36550303951bb251ff5f0c4625f86792ae05be90476186be7f70", func := "seisin/seisinlaw16.VoteNew", spec := "voteNew", recurses := true, apart := false, narrowed := true }
def VoteNewUptoSaid : Prop := voteNewUptoRow.holds Try.pinned (OpenSpec.upto voteNewSpec)

/-- 'seisinlaw16.VoteTells', WHERE WHAT IT READS IS OF BULK AT MOST 1048576: true; the input reads as it did. -/
def voteTellsUptoRow : OpenClaim := { program := "ytogcnfhmcpkdcaa", sum := "886db01cc28e36550303951bb251ff5f0c4625f86792ae05be90476186be7f70", func := "seisin/seisinlaw16.VoteTells", spec := "voteTells", recurses := true, apart := false, narrowed := true }
def VoteTellsUptoSaid : Prop := voteTellsUptoRow.holds Try.pinned (OpenSpec.upto voteTellsSpec)

/-- 'seisinlaw16.VoteOne', WHERE WHAT IT READS IS OF BULK AT MOST 1048576: true; the input reads as it did. -/
def voteOneUptoRow : OpenClaim := { program := "ytogcnfhmcpkdcaa", sum := "886db01cc28e36550303951bb251ff5f0c4625f86792ae05be90476186be7f70", func := "seisin/seisinlaw16.VoteOne", spec := "voteOne", recurses := true, apart := false, narrowed := true }
def VoteOneUptoSaid : Prop := voteOneUptoRow.holds Try.pinned (OpenSpec.upto voteOneSpec)

/-- 'seisinlaw16.VoteBytes', WHERE WHAT IT READS IS OF BULK AT MOST 1048576: true; the input reads as it did. -/
def voteBytesUptoRow : OpenClaim := { program := "ytogcnfhmcpkdcaa", sum := "886db01cc28e36550303951bb251ff5f0c4625f86792ae05be90476186be7f70", func := "seisin/seisinlaw16.VoteBytes", spec := "voteBytes", unfollowed := true, recurses := true, apart := false, narrowed := true }
def VoteBytesUptoSaid : Prop := voteBytesUptoRow.holds Try.pinned (OpenSpec.upto voteBytesSpec)

/-- 'seisinlaw18.RaftLoads', WHERE WHAT IT READS IS OF BULK AT MOST 1048576: true; the input reads as it did. -/
def raftLoadsUptoRow : OpenClaim := { program := "ytogcnfhmcpkdcaa", sum := "886db01cc28e36550303951bb251ff5f0c4625f86792ae05be90476186be7f70", func := "seisin/seisinlaw18.RaftLoads", spec := "raftLoads", unfollowed := true, recurses := true, apart := false, narrowed := true }
def RaftLoadsUptoSaid : Prop := raftLoadsUptoRow.holds Try.pinned (OpenSpec.upto raftLoadsSpec)

end Rows
end Go.Proofs.Ytogcnfhmcpkdcaa
