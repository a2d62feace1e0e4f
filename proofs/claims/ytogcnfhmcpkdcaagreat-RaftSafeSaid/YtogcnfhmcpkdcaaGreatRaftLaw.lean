/-
  The plain law of layer 18: a replica, step by step. No walk.
-/
import Derived.Test.YtogcnfhmcpkdcaaGreatLetLaw
import Derived.Test.YtogcnfhmcpkdcaaGreatVoteM
import Derived.Test.YtogcnfhmcpkdcaaGreatLine1
namespace Go.Proofs.YtogcnfhmcpkdcaaGreat
open Go.RowKit
set_option linter.unusedVariables false
set_option linter.unusedSimpArgs false
abbrev PPost := Int × PLet
structure PRaft where
 me : Int
 n : Int
 bt : Int
 bf : Int
 line : PLine
 state : List UInt8
 role : Int
 lead : Int
 commit : Int
 applied : Int
 ticks : Int
 votes : List Int
 mat : List Int
 nxt : List Int
 jumped : Bool
 news : List (List UInt8)
 out : List PPost
def zeros7 : List Int := [0, 0, 0, 0, 0, 0, 0]
def PRaft.new (me n : Int) : PRaft := ⟨me, n, 0, -1, ⟨0, 0, []⟩, [], 0, -1, 0, 0, 0, zeros7, zeros7, zeros7, false, [], []⟩
def PRaft.post (R : PRaft) (to : Int) (x : PLet) : PRaft := { R with out := R.out ++ [(to, { x with t := R.bt })] }
def ballotNote (bt bf : Int) : List UInt8 := putNum 1 ++ (putNum bt.toNat ++ putNum (bf + 1).toNat)
def itemNote (at_ : Int) (it : PItem) : List UInt8 := putNum 2 ++ (putNum at_.toNat ++ (putNum it.1.toNat ++ putText it.2))
def itemNotes : Int → List PItem → List (List UInt8)
 | _, [] => []
 | at_, it :: r => itemNote at_ it :: itemNotes (at_ + 1) r
def PRaft.noteBallot (R : PRaft) : PRaft := { R with news := R.news ++ [ballotNote R.bt R.bf] }
def PRaft.noteItems (R : PRaft) (at_ : Int) : PRaft := { R with news := R.news ++ itemNotes at_ (R.line.from_ at_ 4096) }
def othersFrom (f : PRaft → Int → PRaft) : Nat → Int → PRaft → PRaft
 | 0, _, R => R
 | k + 1, i, R => othersFrom f k (i + 1) (if i = R.me then R else f R i)
def PRaft.others (R : PRaft) (f : PRaft → Int → PRaft) : PRaft := othersFrom f R.n.toNat 0 R
def PRaft.send (R : PRaft) (to : Int) : PRaft :=
 if R.nxt.getD to.toNat 0 ≤ R.line.base then R.post to ⟨5, 0, R.line.base, R.line.term, 0, false, [], R.state⟩
 else R.post to ⟨3, 0, R.nxt.getD to.toNat 0 - 1, (tmIs R.line (R.nxt.getD to.toNat 0 - 1)).1, R.commit, false, R.line.from_ (R.nxt.getD to.toNat 0 - 1 + 1) 16, []⟩
def PRaft.look (R : PRaft) : PRaft :=
 let m := R.mat.set R.me.toNat R.line.last
 let i := agreed (m.take R.n.toNat)
 if R.commit < i ∧ (tmIs R.line i).1 = R.bt then { R with mat := m, commit := i } else { R with mat := m }
def PRaft.lead0 (R : PRaft) : PRaft :=
 { R with role := 2, lead := R.me, ticks := 0, nxt := List.replicate 7 (R.line.last + 1), mat := zeros7 }
def PRaft.add (R : PRaft) (it : PItem) : PRaft × Int := ({ R with line := (R.line.add it).1 }, (R.line.add it).2)
def PRaft.lead1 (R : PRaft) : PRaft :=
 let a := R.lead0.add (R.bt, [])
 if 0 < a.2 then a.1.noteItems a.2 else a.1
def PRaft.goLead (R : PRaft) : PRaft := R.lead1.look.others PRaft.send
def sumI : List Int → Int
 | [] => 0
 | x :: l => x + sumI l
def PRaft.count (R : PRaft) (from_ : Int) : PRaft :=
 let R' := { R with votes := R.votes.set from_.toNat 1 }
 if enough R.n ≤ sumI R'.votes then R'.goLead else R'
def PRaft.stand0 (R : PRaft) : PRaft := { ({ R with ticks := 0, bt := R.bt + 1, bf := R.me } : PRaft).noteBallot with role := 1, lead := -1, votes := zeros7 }
def PRaft.stand (R : PRaft) : PRaft :=
 if 1099511627776 ≤ R.bt then { R with ticks := 0 }
 else (R.stand0.others fun S to => S.post to ⟨1, 0, R.line.last, (tmIs R.line R.line.last).1, 0, false, [], []⟩).count R.me
def PRaft.tick (R : PRaft) : PRaft :=
 let R' := { R with ticks := R.ticks + 1 }
 if R.role = 2 ∧ 4 ≤ R'.ticks then ({ R' with ticks := 0 } : PRaft).others PRaft.send
 else if R.role ≠ 2 ∧ 20 + 2 * R.me ≤ R'.ticks then R'.stand
 else R'
def PRaft.item (R : PRaft) (i : Int) : PItem := if R.line.base < i ∧ i ≤ R.line.last then R.line.l.getD (i - R.line.base - 1).toNat (0, []) else (0, [])
def PRaft.next (R : PRaft) : PRaft × Option (Int × PItem) :=
 if R.commit ≤ R.applied then (R, none) else ({ R with applied := R.applied + 1 }, some (R.applied + 1, R.item (R.applied + 1)))
def PRaft.propose (R : PRaft) (b : List UInt8) : PRaft × Int × Int :=
 if R.role ≠ 2 then (R, 0, 22)
 else if b.length = 0 then (R, 0, 1)
 else if 8192 < b.length then (R, 0, 4)
 else
  let a := R.add (R.bt, b)
  if a.2 = 0 then (R, 0, 18)
  else (((a.1.noteItems a.2).look).others PRaft.send, a.2, 0)
def PRaft.compact (R : PRaft) (s : List UInt8) : PRaft × Bool :=
 if R.applied = R.line.base ∨ 65536 < s.length ∨ (R.line.drop R.applied).2 = false then (R, false)
 else ({ R with line := (R.line.drop R.applied).1, state := s }, true)
def PRaft.jump (R : PRaft) : PRaft × Option (List UInt8) :=
 if R.jumped = true then ({ R with jumped := false, news := [] }, some R.state) else (R, none)
def PRaft.head (R : PRaft) : List UInt8 := putNum R.bt.toNat ++ (putNum (R.bf + 1).toNat ++ (putText R.line.put ++ putText R.state))
structure PRaft.Ok (R : PRaft) : Prop where
 n1 : 1 ≤ R.n
 n7 : R.n ≤ 7
 me0 : 0 ≤ R.me
 men : R.me < R.n
 bt0 : 0 ≤ R.bt
 bt1 : R.bt ≤ 1099511627776
 bf0 : -1 ≤ R.bf
 bf1 : R.bf ≤ 6
 line : R.line.Good
 ap0 : R.line.base ≤ R.applied
 ap1 : R.applied ≤ R.commit
 cm : R.commit ≤ R.line.last
 tk0 : 0 ≤ R.ticks
 tk1 : R.ticks ≤ 40
 v7 : R.votes.length = 7
 m7 : R.mat.length = 7
 x7 : R.nxt.length = 7
 vs : ∀ x ∈ R.votes, 0 ≤ x ∧ x ≤ 1
 mss : ∀ x ∈ R.mat, 0 ≤ x ∧ x ≤ 1099511627776
 xs : ∀ x ∈ R.nxt, 0 ≤ x ∧ x ≤ 1099511627777
 role0 : 0 ≤ R.role
 role2 : R.role ≤ 2
 rb : R.role ≠ 0 → 1 ≤ R.bt
 st : R.state.length ≤ 65536
end Go.Proofs.YtogcnfhmcpkdcaaGreat
