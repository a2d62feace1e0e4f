/-
A reading function, and field.Read over it: what it comes to, as the plain reading says.
-/
import Derived.Test.YtogcnfhmcpkdcaaGreatFieldM
import Derived.Test.YtogcnfhmcpkdcaaGreatNumM
import Derived.Test.YtogcnfhmcpkdcaaGreatLine2
import Derived.Laws.AppendOwn
namespace Go.Proofs.YtogcnfhmcpkdcaaGreat
open Go.RowKit
set_option linter.unusedVariables false
structure fw {α:Type} (q p:Nat) (r:bO α) (w w':World) (e:Ending) (is:α->Prop):Prop where
 os:w'.os=w.os
 tape:w'.tape=w.tape
 output:w'.output=w.output
 size:w.heap.size<=w'.heap.size
 block:∀k,k<w.heap.size->k≠q->k≠p->w'.heap[k]? =w.heap[k]?
 bad:∀x,r= .err x->e=bK x
 good:∀v rest,r= .ok v rest->e= .returned (.tuple #[])/\l9 w' q rest.length/\is v
theorem fw.of_err{α:Type}{q p:Nat}{w w':World}{x:Int}{is:α->Prop}(a:w'.os=w.os)(tape:w'.tape=w.tape)(output:w'.output=w.output)(size:w.heap.size<=w'.heap.size)
 (block:∀k,k<w.heap.size->k≠q->k≠p->w'.heap[k]? =w.heap[k]?):fw q p (.err x:bO α) w w' (bK x) is:=
 ⟨a,tape,output,size,block,fun _ h=>by cases h;rfl,fun _ _ h=>by cases h⟩
theorem fw.of_but{α:Type}{q p:Nat}{w w':World}{x:Int}{is:α->Prop}(h:fV q w w'):fw q p (.err x:bO α) w w' (bK x) is:=.of_err h.os h.tape h.output h.size fun k b a _=>h.block k b a
theorem lH{α:Type}(r:bO α)(hs:r.sane)(l:List UInt8)(a:Option Addr)(n c:Nat)(f:FuncId)(hf:∀args w,Sem.run Tryz.prog (callFunc f args) w= .ok (.enter f args) w)(first cap:Array Value)(p:Nat)(w:World)
 (M:p<w.heap.size)(h:aM w w.heap.size a n c l)(is:World->World->α->Prop)
 (z:∀q w1,Below w.heap.size w w1->w.heap.size<q->bF w1 q l->Calls Tryz.prog f (first.push (.pointer (some ⟨q,0,none⟩))++cap) w1 fun e w'=>fw q p r w1 w' e (is w1 w')):
  Calls Tryz.prog 90 #[.slice a n c, .func (.func f) first cap] w fun e w2=>e= .returned (.int .i64 r.code)/\w.grownBy w2 (some p)/\
   ∀v,r= .ok v []->∃w1 w' rb,w.heap.size<=rb/\rb<w1.heap.size/\w1.heap.size<=w'.heap.size/\Below w.heap.size w w1/\is w1 w' v/\fV rb w' w2:=by
 refine(pd l a n c f hf first cap w h (fun q w1 w' x=>x=r.code/\w1.heap.size<=w'.heap.size/\(∀k,k<w1.heap.size->k≠q->k≠p->w'.heap[k]? =w1.heap[k]?)/\w'.os=w1.os/\w'.tape=w1.tape/\w'.output=w1.output/\∀v,r= .ok v []->is w1 w' v) ?_).mono ?_
 ·intro q w1 g J he;have L:p<w1.heap.size:=Nat.lt_of_lt_of_le M g.size;refine(z q w1 g J he).mono ?_;rintro e w' d;refine⟨d.size,fun k C A R=>d.block k A R (by omega),r.code,?_,rfl,d.size,d.block,d.os,d.tape,d.output,fun v j=>(d.good v [] j).2.2⟩;cases hR:r with
  | err x=>exact .inl ⟨d.bad x hR,hs x hR⟩
  | ok v rest=>obtain⟨C,A,_⟩:=d.good v rest hR;exact .inr ⟨C,rest,A,rfl⟩
 ·rintro e w2 ⟨q,w1,w',x,rb,rfl,g,I,H,s,o,G,⟨rfl,m,i,N,F,D,y⟩,b⟩;have P:=g.size;have B:=b.size;refine⟨rfl,⟨b.os.trans (N.trans g.os),b.tape.trans (F.trans g.tape),b.output.trans (D.trans g.output),by omega,fun k O t=> ?_⟩,fun v j=>⟨w1,w',rb,s,o,m,g,y v j,b⟩⟩;exact(b.block k (by omega) (by omega)).trans ((i k (by omega) (by omega) (fun e=>t (by rw[e]))).trans (g.block k O))
set_option linter.unusedSimpArgs false
theorem ec{w w':World}{base e a n:Nat}{v:Value}{xs:List Value}(h:w.ownsRow base e a v n xs)(hb:∀g cur,v.ownBlock=some g->w.heap[g]? =some (.cells cur e (0,0))->w'.heap[g]? =w.heap[g]?):w'.ownsRow base e a v n xs:=by
 refine⟨h.1,?_⟩;rcases h.2 with⟨e,d⟩ | ⟨g,b,cur,e,l,c,k,j,i,f⟩
 ·exact .inl ⟨e,d⟩
 ·exact .inr ⟨g,b,cur,e,l,(hb g cur (by rw[e];rfl) c).trans c,k,j,i,f⟩
theorem bS.mono{w:World}{base B p:Nat}{x:ae}{la:Option Addr}{lc:Nat}{ms:List af}(h:cE w base p x la lc ms)(hB:B<=base):cE w B p x la lc ms:=⟨h.row,World.ownsRow.mono h.own hB,h.its,h.bs,by have:=h.pb;omega⟩
theorem bS.moved{w w':World}{base p:Nat}{x:ae}{la:Option Addr}{lc:Nat}{ms:List af}(h:cE w base p x la lc ms)(hs:w.heap.size<=w'.heap.size)
 (b:∀cs,w.heap[p]? =some (.cells cs 105 (0,0))->w'.heap[p]? =w.heap[p]?)(ho:∀g cur,(Value.slice la ms.length lc).ownBlock=some g->w.heap[g]? =some (.cells cur 40 (0,0))->w'.heap[g]? =w.heap[g]?)
 (a:∀k cs fr,k<w.heap.size->w.heap[k]? =some (.cells cs 5 fr)->w'.heap[k]? =w.heap[k]?):cE w' base p x la lc ms:=
 ⟨(b _ h.row).trans h.row,ec h.own ho,h.its,fun m c=>(h.bs m c).grown (T:=5) a hs,h.pb⟩
theorem yO{w:World}{k:Nat}{cs b:Array Value}{T c:TypeId}{fr a:Nat×Nat}(h:w.heap[k]? =some (.cells cs T fr))(h':w.heap[k]? =some (.cells b c a))(hne:(T:Nat)≠c):False:=by rw[h]at h';injection h' with h';injection h' with _ e _;exact hne e
end Go.Proofs.YtogcnfhmcpkdcaaGreat
