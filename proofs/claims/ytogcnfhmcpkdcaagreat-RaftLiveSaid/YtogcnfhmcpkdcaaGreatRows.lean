/-
  No cell of these rows narrows 'for every input' (looked for: loops, veiled, ifaces, maps, wideKeys, modest, calm, conditions, laid).
  DERIVED. THE GIVEN ROWS OF THIS SEAT. 4 by the template 'for every input the law returns true; each argument reads behind the call as it read before'; 0 by the template 'total and deterministic' (their statements: YtogcnfhmcpkdcaaGreatTotals.lean).
  GIVEN WITH THE SEED: the statements are not yours to turn. If you find one false, say at which input.
  Laid BY PROGRAM, IN A SANDBOX (cutbox-rows.mjs): the forced cells as the released guide's own fill.sh prints them over the translation 41433e920bd39902… (all of the seat's roots in one cut). By AI agents, Wed Nov 11 2026. No macro, syntax, notation, axiom, sorry.
-/
import Derived.Test.YtogcnfhmcpkdcaaGreatChecked
import GoSem.Claim
import GoSem.ClaimJoined
import GoSem.ClaimMapViews
import Derived.JoinedTies
import Derived.KernelRfl
namespace Go.Proofs.YtogcnfhmcpkdcaaGreat
/- THE CELL 'sum', in the pinned program and in every row, IS THE sha256 OF THE DUMP (.gsa) THAT YtogcnfhmcpkdcaaGreatProg.lean LOADS. Nothing in Lean hashes anything: it is a label: what it is worth is what the hold of that sum in a sandbox is worth. -/
noncomputable def Tryz.pinned : Pinned := { name := "ytogcnfhmcpkdcaagreat", sum := "41433e920bd39902f3aabe26b51c18dbc034c7ff7bbce187d1df255ecf0b252b", checked := Tryz.checked }
namespace Rows
def none {H : Type} : Left H := { results := [], args := [] }

/-- 'seisinlaw18.RaftLasts': WHATEVER THE INPUT: true; the input reads as it did. -/
def raftLastsSpec : ChangeSpec := { name := "raftLasts", fn := fun _ => fun
  | [d1, d2, d3] => { results := [.lit (.bool true)], args := [d1, d2, d3] }
  | _ => none }
def raftLastsRow : OpenClaim := { program := "ytogcnfhmcpkdcaagreat", sum := "41433e920bd39902f3aabe26b51c18dbc034c7ff7bbce187d1df255ecf0b252b", func := "seisin/seisinlaw18.RaftLasts", spec := "raftLasts", unfollowed := true, recurses := true, apart := false }
def RaftLastsSaid : Prop := raftLastsRow.holds Tryz.pinned (OpenSpec.ofChange raftLastsSpec)

/-- ITS FALSE NEIGHBOUR: 'it returns false'. Refute it at one input. -/
def raftLastsWrong : ChangeSpec := { name := "raftLasts", fn := fun _ => fun
  | [d1, d2, d3] => { results := [.lit (.bool false)], args := [d1, d2, d3] }
  | _ => none }
def RaftLastsWrongFalsely : Prop := raftLastsRow.holds Tryz.pinned (OpenSpec.ofChange raftLastsWrong)

/-- 'seisinlaw18.RaftSafe': WHATEVER THE INPUT: true; the input reads as it did. -/
def raftSafeSpec : ChangeSpec := { name := "raftSafe", fn := fun _ => fun
  | [d1, d2] => { results := [.lit (.bool true)], args := [d1, d2] }
  | _ => none }
def raftSafeRow : OpenClaim := { program := "ytogcnfhmcpkdcaagreat", sum := "41433e920bd39902f3aabe26b51c18dbc034c7ff7bbce187d1df255ecf0b252b", func := "seisin/seisinlaw18.RaftSafe", spec := "raftSafe", unfollowed := true, recurses := true, apart := false }
def RaftSafeSaid : Prop := raftSafeRow.holds Tryz.pinned (OpenSpec.ofChange raftSafeSpec)

/-- ITS FALSE NEIGHBOUR: 'it returns false'. Refute it at one input. -/
def raftSafeWrong : ChangeSpec := { name := "raftSafe", fn := fun _ => fun
  | [d1, d2] => { results := [.lit (.bool false)], args := [d1, d2] }
  | _ => none }
def RaftSafeWrongFalsely : Prop := raftSafeRow.holds Tryz.pinned (OpenSpec.ofChange raftSafeWrong)

/-- 'seisinlaw18.RaftLive': WHATEVER THE INPUT: true; the input reads as it did. -/
def raftLiveSpec : ChangeSpec := { name := "raftLive", fn := fun _ => fun
  | [d1, d2, d3] => { results := [.lit (.bool true)], args := [d1, d2, d3] }
  | _ => none }
def raftLiveRow : OpenClaim := { program := "ytogcnfhmcpkdcaagreat", sum := "41433e920bd39902f3aabe26b51c18dbc034c7ff7bbce187d1df255ecf0b252b", func := "seisin/seisinlaw18.RaftLive", spec := "raftLive", unfollowed := true, recurses := true, apart := false }
def RaftLiveSaid : Prop := raftLiveRow.holds Tryz.pinned (OpenSpec.ofChange raftLiveSpec)

/-- ITS FALSE NEIGHBOUR: 'it returns false'. Refute it at one input. -/
def raftLiveWrong : ChangeSpec := { name := "raftLive", fn := fun _ => fun
  | [d1, d2, d3] => { results := [.lit (.bool false)], args := [d1, d2, d3] }
  | _ => none }
def RaftLiveWrongFalsely : Prop := raftLiveRow.holds Tryz.pinned (OpenSpec.ofChange raftLiveWrong)

/-- 'seisinlaw18.RaftAlone': WHATEVER THE INPUT: true; the input reads as it did. -/
def raftAloneSpec : ChangeSpec := { name := "raftAlone", fn := fun _ => fun
  | [d1, d2] => { results := [.lit (.bool true)], args := [d1, d2] }
  | _ => none }
def raftAloneRow : OpenClaim := { program := "ytogcnfhmcpkdcaagreat", sum := "41433e920bd39902f3aabe26b51c18dbc034c7ff7bbce187d1df255ecf0b252b", func := "seisin/seisinlaw18.RaftAlone", spec := "raftAlone", unfollowed := true, recurses := true, apart := false }
def RaftAloneSaid : Prop := raftAloneRow.holds Tryz.pinned (OpenSpec.ofChange raftAloneSpec)

/-- ITS FALSE NEIGHBOUR: 'it returns false'. Refute it at one input. -/
def raftAloneWrong : ChangeSpec := { name := "raftAlone", fn := fun _ => fun
  | [d1, d2] => { results := [.lit (.bool false)], args := [d1, d2] }
  | _ => none }
def RaftAloneWrongFalsely : Prop := raftAloneRow.holds Tryz.pinned (OpenSpec.ofChange raftAloneWrong)

/- THE SECOND FORM. 'bulk': how many values and letters a reading holds, each counted each time it is reached (what is shared counts as often as it is met; a slice's spare places count too). A statement '..UptoSaid' is the law's where the arguments, and the package variables that the reading takes, are together of bulk at most 1048576: NARROWER than '..Said'. Prove '..Said' where nothing that the law and all that it calls make is longer than what came in: it says more and counts as full. Else prove '..UptoSaid'. A law counts once. -/
mutual
def uptoBulk {H : Type} : DataW H → Nat
  | .lit (.string bytes) => bytes.length + 1
  | .lit _ => 1
  | .nil => 1
  | .ptr d => uptoBulk d + 1
  | .slice elems spare => uptoBulkAll elems + uptoBulkAll spare + 1
  | .agg parts => uptoBulkAll parts + 1
  | .iface _ d => uptoBulk d + 1
  | .map entries => uptoBulkEntries entries + 1
  | .held _ => 1
def uptoBulkAll {H : Type} : List (DataW H) → Nat
  | [] => 0
  | d :: r => uptoBulk d + uptoBulkAll r
def uptoBulkEntries {H : Type} : List (Lit × DataW H) → Nat
  | [] => 0
  | x :: r => uptoBulkEntry x + uptoBulkEntries r
def uptoBulkEntry {H : Type} : Lit × DataW H → Nat
  | (.string bytes, d) => bytes.length + uptoBulk d + 1
  | (_, d) => uptoBulk d + 1
 end
def uptoSmall : (H : Type) → List (DataW H) → Bool := fun _ ds => decide (uptoBulkAll ds ≤ 1048576)
def OpenSpec.upto (s : _root_.Go.ChangeSpec) : _root_.Go.OpenSpec := { _root_.Go.OpenSpec.ofChange s with cond := some uptoSmall }

/-- 'seisinlaw18.RaftLasts', WHERE WHAT IT READS IS OF BULK AT MOST 1048576: true; the input reads as it did. -/
def raftLastsUptoRow : OpenClaim := { program := "ytogcnfhmcpkdcaagreat", sum := "41433e920bd39902f3aabe26b51c18dbc034c7ff7bbce187d1df255ecf0b252b", func := "seisin/seisinlaw18.RaftLasts", spec := "raftLasts", unfollowed := true, recurses := true, apart := false, narrowed := true }
def RaftLastsUptoSaid : Prop := raftLastsUptoRow.holds Tryz.pinned (OpenSpec.upto raftLastsSpec)

/-- 'seisinlaw18.RaftSafe', WHERE WHAT IT READS IS OF BULK AT MOST 1048576: true; the input reads as it did. -/
def raftSafeUptoRow : OpenClaim := { program := "ytogcnfhmcpkdcaagreat", sum := "41433e920bd39902f3aabe26b51c18dbc034c7ff7bbce187d1df255ecf0b252b", func := "seisin/seisinlaw18.RaftSafe", spec := "raftSafe", unfollowed := true, recurses := true, apart := false, narrowed := true }
def RaftSafeUptoSaid : Prop := raftSafeUptoRow.holds Tryz.pinned (OpenSpec.upto raftSafeSpec)

/-- 'seisinlaw18.RaftLive', WHERE WHAT IT READS IS OF BULK AT MOST 1048576: true; the input reads as it did. -/
def raftLiveUptoRow : OpenClaim := { program := "ytogcnfhmcpkdcaagreat", sum := "41433e920bd39902f3aabe26b51c18dbc034c7ff7bbce187d1df255ecf0b252b", func := "seisin/seisinlaw18.RaftLive", spec := "raftLive", unfollowed := true, recurses := true, apart := false, narrowed := true }
def RaftLiveUptoSaid : Prop := raftLiveUptoRow.holds Tryz.pinned (OpenSpec.upto raftLiveSpec)

/-- 'seisinlaw18.RaftAlone', WHERE WHAT IT READS IS OF BULK AT MOST 1048576: true; the input reads as it did. -/
def raftAloneUptoRow : OpenClaim := { program := "ytogcnfhmcpkdcaagreat", sum := "41433e920bd39902f3aabe26b51c18dbc034c7ff7bbce187d1df255ecf0b252b", func := "seisin/seisinlaw18.RaftAlone", spec := "raftAlone", unfollowed := true, recurses := true, apart := false, narrowed := true }
def RaftAloneUptoSaid : Prop := raftAloneUptoRow.holds Tryz.pinned (OpenSpec.upto raftAloneSpec)

end Rows
end Go.Proofs.YtogcnfhmcpkdcaaGreat
