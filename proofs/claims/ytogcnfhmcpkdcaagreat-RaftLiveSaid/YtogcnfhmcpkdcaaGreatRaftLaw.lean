/-
The plain law of layer 18: a replica, step by step. No walk.
-/
import Derived.Test.YtogcnfhmcpkdcaaGreatLetLaw
import Derived.Test.YtogcnfhmcpkdcaaGreatVoteM
import Derived.Test.YtogcnfhmcpkdcaaGreatLine1
namespace Go.Proofs.YtogcnfhmcpkdcaaGreat
open Go.RowKit
set_option linter.unusedVariables false
set_option linter.unusedSimpArgs false
abbrev dg:=Int×ax
structure aa where
 me:Int
 n:Int
 bt:Int
 bf:Int
 line:ae
 state:List UInt8
 role:Int
 lead:Int
 commit:Int
 applied:Int
 ticks:Int
 votes:List Int
 mat:List Int
 nxt:List Int
 jumped:Bool
 news:List (List UInt8)
 out:List dg
def aW:List Int:= [0,0,0,0,0,0,0]
def aa.new(me n:Int):aa:=⟨me,n,0, -1,⟨0,0,[]⟩,[],0, -1,0,0,0,aW,aW,aW,false,[],[]⟩
def aa.post(R:aa)(to:Int)(x:ax):aa:={ R with out:=R.out++ [(to,{ x with t:=R.bt })] }
def bT(bt bf:Int):List UInt8:=aC 1++(aC bt.toNat++aC (bf+1).toNat)
def dy(at_ :Int)(it:ar):List UInt8:=aC 2++(aC at_.toNat++(aC it.1.toNat++bN it.2))
def cq:Int->List ar->List (List UInt8)
 | _,[]=> []
 | at_,it::r=>dy at_ it::cq (at_+1) r
def aa.noteBallot(R:aa):aa:={ R with news:=R.news++ [bT R.bt R.bf] }
def aa.noteItems(R:aa)(at_ :Int):aa:={ R with news:=R.news++cq at_ (R.line.from_ at_ 4096) }
def bI(f:aa->Int->aa):Nat->Int->aa->aa
 | 0,_,R=>R
 | k+1,i,R=>bI f k (i+1) (if i=R.me then R else f R i)
def aa.others(R:aa)(f:aa->Int->aa):aa:=bI f R.n.toNat 0 R
def aa.send(R:aa)(to:Int):aa:=
 if R.nxt.getD to.toNat 0<=R.line.base then R.post to ⟨5,0,R.line.base,R.line.term,0,false,[],R.state⟩
 else R.post to ⟨3,0,R.nxt.getD to.toNat 0-1,(bk R.line (R.nxt.getD to.toNat 0-1)).1,R.commit,false,R.line.from_ (R.nxt.getD to.toNat 0-1+1) 16,[]⟩
def aa.look(R:aa):aa:=
 let m:=R.mat.set R.me.toNat R.line.last
 let i:=cB (m.take R.n.toNat)
 if R.commit<i/\(bk R.line i).1=R.bt then { R with mat:=m,commit:=i } else { R with mat:=m }
def aa.lead0(R:aa):aa:={ R with role:=2,lead:=R.me,ticks:=0,nxt:=List.replicate 7 (R.line.last+1),mat:=aW }
def aa.add(R:aa)(it:ar):aa×Int:=({ R with line:=(R.line.add it).1 },(R.line.add it).2)
def aa.lead1(R:aa):aa:=
 let a:=R.lead0.add (R.bt,[])
 if 0<a.2 then a.1.noteItems a.2 else a.1
def aa.goLead(R:aa):aa:=R.lead1.look.others aa.send
def ef:List Int->Int
 | []=>0
 | x::l=>x+ef l
def aa.count(R:aa)(from_ :Int):aa:=
 let R':={ R with votes:=R.votes.set from_.toNat 1 }
 if bD R.n<=ef R'.votes then R'.goLead else R'
def aa.stand0(R:aa):aa:={ ({ R with ticks:=0,bt:=R.bt+1,bf:=R.me }:aa).noteBallot with role:=1,lead:= -1,votes:=aW }
def aa.stand(R:aa):aa:=
 if 1099511627776<=R.bt then { R with ticks:=0 }
 else(R.stand0.others fun S to=>S.post to ⟨1,0,R.line.last,(bk R.line R.line.last).1,0,false,[],[]⟩).count R.me
def aa.tick(R:aa):aa:=
 let R':={ R with ticks:=R.ticks+1 }
 if R.role=2/\4<=R'.ticks then({ R' with ticks:=0 }:aa).others aa.send
 else if R.role≠2/\20+2*R.me<=R'.ticks then R'.stand
 else R'
def aa.item(R:aa)(i:Int):ar:=if R.line.base<i/\i<=R.line.last then R.line.l.getD (i-R.line.base-1).toNat (0,[]) else(0,[])
def aa.next(R:aa):aa×Option (Int×ar):=if R.commit<=R.applied then(R,none) else({ R with applied:=R.applied+1 },some (R.applied+1,R.item (R.applied+1)))
def aa.propose(R:aa)(b:List UInt8):aa×Int×Int:=
 if R.role≠2 then(R,0,22)
 else if b.length=0 then(R,0,1)
 else if 8192<b.length then(R,0,4)
 else
  let a:=R.add (R.bt,b)
  if a.2=0 then(R,0,18)
  else(((a.1.noteItems a.2).look).others aa.send,a.2,0)
def aa.compact(R:aa)(s:List UInt8):aa×Bool:=
 if R.applied=R.line.base\/65536<s.length\/(R.line.drop R.applied).2=false then(R,false)
 else({ R with line:=(R.line.drop R.applied).1,state:=s },true)
def aa.jump(R:aa):aa×Option (List UInt8):=if R.jumped=true then({ R with jumped:=false,news:= [] },some R.state) else(R,none)
def aa.head(R:aa):List UInt8:=aC R.bt.toNat++(aC (R.bf+1).toNat++(bN R.line.put++bN R.state))
structure aa.Ok (R:aa):Prop where
 n1:1<=R.n
 n7:R.n<=7
 me0:0<=R.me
 men:R.me<R.n
 bt0:0<=R.bt
 bt1:R.bt<=1099511627776
 bf0: -1<=R.bf
 bf1:R.bf<=6
 line:R.line.Good
 ap0:R.line.base<=R.applied
 ap1:R.applied<=R.commit
 cm:R.commit<=R.line.last
 tk0:0<=R.ticks
 tk1:R.ticks<=40
 v7:R.votes.length=7
 m7:R.mat.length=7
 x7:R.nxt.length=7
 vs:∀x∈R.votes,0<=x/\x<=1
 mss:∀x∈R.mat,0<=x/\x<=1099511627776
 xs:∀x∈R.nxt,0<=x/\x<=1099511627777
 role0:0<=R.role
 role2:R.role<=2
 rb:R.role≠0->1<=R.bt
 st:R.state.length<=65536
end Go.Proofs.YtogcnfhmcpkdcaaGreat
