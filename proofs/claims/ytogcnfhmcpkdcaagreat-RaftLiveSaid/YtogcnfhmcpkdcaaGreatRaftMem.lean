/-
A replica in memory: its cells, its rows, and what each turning leaves as it was. No walk.
-/
import Derived.Test.YtogcnfhmcpkdcaaGreatRaftLaw
import Derived.Test.YtogcnfhmcpkdcaaGreatLineM8
import Derived.Test.YtogcnfhmcpkdcaaGreatLineM9
namespace Go.Proofs.YtogcnfhmcpkdcaaGreat
open Go.RowKit
set_option linter.unusedVariables false
set_option linter.unusedSimpArgs false
abbrev iz (n:Int):Value:= .int .i64 n
structure aV where
 a:Option Addr
 c:Nat
 b:List UInt8
abbrev aV.cell (m:aV):Value:= .slice m.a m.b.length m.c
abbrev cS (w:World) (a:Option Addr) (c:Nat) (l:List UInt8):Prop:=OwnBs 5 w ⟨0,a,l.length,c,l⟩
structure cz where
 to:Int
 x:ax
 ia:Option Addr
 ic:Nat
 ms:List af
 ba:Option Addr
 bc:Nat
def cz.cells(m:cz):List Value:= [iz m.to,iz m.x.k,iz m.x.t,iz m.x.a,iz m.x.u,iz m.x.o, .bool m.x.y, .slice m.ia m.ms.length m.ic, .slice m.ba m.x.b.length m.bc]
def cz.p(m:cz):dg:=(m.to,m.x)
structure cz.At (w:World) (m:cz):Prop where
 own:d8 w 0 m.ia m.ic m.ms
 eq:m.ms.map af.it=m.x.its
 b:cS w m.ba m.bc m.x.b
structure ay where
 lb:Nat
 la:Option Addr
 lc:Nat
 ms:List af
 sa:Option Addr
 sc:Nat
 na:Option Addr
 nc:Nat
 ns:List aV
 oa:Option Addr
 on:Nat
 oc:Nat
 ocs:List Value
 ps:List cz
def bW(R:aa)(M:ay):List Value:= [iz R.me,iz R.n,iz R.bt,iz R.bf, .pointer (some ⟨M.lb,0,none⟩), .slice M.sa R.state.length M.sc,iz R.role,iz R.lead,iz R.commit,iz R.applied,iz R.ticks]
def je(R:aa)(M:ay):List Value:= [.bool R.jumped, .slice M.na M.ns.length M.nc, .slice M.oa M.on M.oc]
def aP(R:aa)(M:ay):List Value:=bW R M++(R.votes.map iz++(R.mat.map iz++(R.nxt.map iz++je R M)))
structure rJ (R:aa):Prop where
 v7:R.votes.length=7
 m7:R.mat.length=7
 x7:R.nxt.length=7
theorem rJ.cp{R R':aa}(h:rJ R)(hv:R'.votes=R.votes)(hm:R'.mat=R.mat)(hx:R'.nxt=R.nxt):rJ R':=⟨by rw[hv];exact h.v7,by rw[hm];exact h.m7,by rw[hx];exact h.x7⟩
theorem bC{R:aa}{M:ay}(h:rJ R){j:Nat}(a:j<7):(aP R M)[11+j]? =some (iz (R.votes.getD j 0)):=by rw[aP,List.getElem?_append_right (by simp[bW]),List.getElem?_append_left (by simp[bW,h.v7];omega)];simp[bW,List.getElem?_map,List.getD,List.getElem?_eq_getElem (show j<R.votes.length by rw[h.v7];exact a)]
theorem dV{R:aa}{M:ay}(h:rJ R){j:Nat}(a:j<7):(aP R M)[18+j]? =some (iz (R.mat.getD j 0)):=by rw[aP,List.getElem?_append_right (by simp[bW];omega),List.getElem?_append_right (by simp[bW,h.v7];omega),List.getElem?_append_left (by simp[bW,h.v7,h.m7];omega)];simp only[bW,List.length_map,h.v7,List.length_cons,List.length_nil];rw[show 18+j-(0+1+1+1+1+1+1+1+1+1+1+1)-7=j by omega];simp[List.getElem?_map,List.getD,List.getElem?_eq_getElem (show j<R.mat.length by rw[h.m7];exact a)]
theorem dU{R:aa}{M:ay}(h:rJ R){j:Nat}(a:j<7):(aP R M)[25+j]? =some (iz (R.nxt.getD j 0)):=by rw[aP,List.getElem?_append_right (by simp[bW];omega),List.getElem?_append_right (by simp[bW,h.v7];omega),List.getElem?_append_right (by simp[bW,h.v7,h.m7];omega),List.getElem?_append_left (by simp[bW,h.v7,h.m7,h.x7];omega)];simp only[bW,List.length_map,h.v7,h.m7,List.length_cons,List.length_nil];rw[show 25+j-(0+1+1+1+1+1+1+1+1+1+1+1)-7-7=j by omega];simp[List.getElem?_map,List.getD,List.getElem?_eq_getElem (show j<R.nxt.length by rw[h.x7];exact a)]
theorem ea{R:aa}{M:ay}(h:rJ R){j:Nat}(a:j<3):(aP R M)[32+j]? =(je R M)[j]? :=by rw[aP,List.getElem?_append_right (by simp[bW];omega),List.getElem?_append_right (by simp[bW,h.v7];omega),List.getElem?_append_right (by simp[bW,h.v7,h.m7];omega),List.getElem?_append_right (by simp[bW,h.v7,h.m7,h.x7];omega)];simp only[bW,List.length_map,h.v7,h.m7,h.x7,List.length_cons,List.length_nil];rw[show 32+j-(0+1+1+1+1+1+1+1+1+1+1+1)-7-7-7=j by omega]
theorem bg{R R':aa}{M M':ay}{j:Nat}{x:Value}(a:j<11)(hh:(bW R M).set j x=bW R' M')(hv:R'.votes=R.votes)(hm:R'.mat=R.mat)(hx:R'.nxt=R.nxt)(ht:je R' M'=je R M):(aP R M).set j x=aP R' M':=by rw[aP,aP,List.set_append_left _ _ (by simp[bW];omega),hh,hv,hm,hx,ht]
theorem lR{R:aa}{M:ay}(h:rJ R){j:Nat}(a:j<7)(x:Int):(aP R M).set (11+j) (iz x)=aP { R with votes:=R.votes.set j x } M:=by rw[aP,aP,List.set_append_right _ _ (by simp[bW]),List.set_append_left _ _ (by simp[bW,h.v7];omega)];simp only[bW,List.length_cons,List.length_nil];rw[show 11+j-(0+1+1+1+1+1+1+1+1+1+1+1)=j by omega,List.map_set];rfl
theorem og{R:aa}{M:ay}(h:rJ R){j:Nat}(a:j<7)(x:Int):(aP R M).set (18+j) (iz x)=aP { R with mat:=R.mat.set j x } M:=by rw[aP,aP,List.set_append_right _ _ (by simp[bW];omega),List.set_append_right _ _ (by simp[bW,h.v7];omega),List.set_append_left _ _ (by simp[bW,h.v7,h.m7];omega)];simp only[bW,List.length_map,h.v7,List.length_cons,List.length_nil];rw[show 18+j-(0+1+1+1+1+1+1+1+1+1+1+1)-7=j by omega,List.map_set];rfl
theorem oe{R:aa}{M:ay}(h:rJ R){j:Nat}(a:j<7)(x:Int):(aP R M).set (25+j) (iz x)=aP { R with nxt:=R.nxt.set j x } M:=by rw[aP,aP,List.set_append_right _ _ (by simp[bW];omega),List.set_append_right _ _ (by simp[bW,h.v7];omega),List.set_append_right _ _ (by simp[bW,h.v7,h.m7];omega),List.set_append_left _ _ (by simp[bW,h.v7,h.m7,h.x7];omega)];simp only[bW,List.length_map,h.v7,h.m7,List.length_cons,List.length_nil];rw[show 25+j-(0+1+1+1+1+1+1+1+1+1+1+1)-7-7=j by omega,List.map_set];rfl
theorem dt{R R':aa}{M M':ay}(h:rJ R){j:Nat}{x:Value}(a:j<3)(ht:(je R M).set j x=je R' M')(hh:bW R' M'=bW R M)(hv:R'.votes=R.votes)(hm:R'.mat=R.mat)(hx:R'.nxt=R.nxt):(aP R M).set (32+j) x=aP R' M':=by rw[aP,aP,List.set_append_right _ _ (by simp[bW];omega),List.set_append_right _ _ (by simp[bW,h.v7];omega),List.set_append_right _ _ (by simp[bW,h.v7,h.m7];omega),List.set_append_right _ _ (by simp[bW,h.v7,h.m7,h.x7];omega)];simp only[List.length_map,h.v7,h.m7,h.x7];rw[show(bW R M).length=11 from rfl,show 32+j-11-7-7-7=j by omega,ht,hh,hv,hm,hx]
def ay.own(p:Nat)(M:ay)(k:Nat):Prop:=k=p\/k=M.lb\/M.la.map (·.block)=some k\/M.na.map (·.block)=some k\/M.oa.map (·.block)=some k
structure tM (w:World) (p:Nat) (M:ay) (out:List dg):Prop where
 q:M.ps.map cz.p=out
 c:M.ocs=M.ps.flatMap cz.cells
 m:∀m∈M.ps,m.At w
 n:∀m∈M.ps,∀k,m.ia.map (·.block)=some k->¬M.own p k
structure ao (w:World) (p:Nat) (R:aa) (M:ay):Prop where
 sv:rJ R
 row:w.heap[p]? =some (.cells (aP R M).toArray 84 (0,0))
 ln:cE w 0 M.lb R.line M.la M.lc M.ms
 st:cS w M.sa M.sc R.state
 nw:w.ownsRow 0 27 1 (.slice M.na M.ns.length M.nc) M.ns.length (M.ns.map aV.cell)
 nb:∀m∈M.ns,cS w m.a m.c m.b
 nq:M.ns.map aV.b=R.news
 ou:w.ownsRow 0 102 9 (.slice M.oa M.on M.oc) M.on M.ocs
 oq:M.on=R.out.length
 po:tM w p M R.out
theorem al(a:Option Addr)(n c:Nat):(Value.slice a n c).ownBlock=a.map (·.block):=by cases a<;>rfl
structure ah (p:Nat) (M M':ay) (w w':World):Prop where
 os:w'.os=w.os
 tape:w'.tape=w.tape
 output:w'.output=w.output
 size:w.heap.size<=w'.heap.size
 block:∀k,k<w.heap.size->¬M.own p k->w'.heap[k]? =w.heap[k]?
 fresh:∀k,M'.own p k->M.own p k\/w.heap.size<=k
theorem ah.refl(p:Nat)(M:ay)(w:World):ah p M M w w:=⟨rfl,rfl,rfl,Nat.le_refl _,fun _ _ _=>rfl,fun _ h=> .inl h⟩
theorem ah.trans{p:Nat}{M M1 j:ay}{a b c:World}(h:ah p M M1 a b)(k:ah p M1 j b c):ah p M j a c:=
 ⟨k.os.trans h.os,k.tape.trans h.tape,k.output.trans h.output,Nat.le_trans h.size k.size,fun i g f=>(k.block i (Nat.lt_of_lt_of_le g h.size) (fun e=>by
  rcases h.fresh i e with d | d
  ·exact f d
  ·omega)).trans (h.block i g f),fun i e=>by
  rcases k.fresh i e with d | d
  ·exact h.fresh i d
  ·exact .inr (Nat.le_trans h.size d)⟩
theorem ah.ofBelow{p:Nat}{M:ay}{w w':World}(h:Below w.heap.size w w'):ah p M M w w':=⟨h.os,h.tape,h.output,h.size,fun k a _=>h.block k a,fun _ h=> .inl h⟩
theorem ah.below{p B:Nat}{M M':ay}{w w':World}(h:ah p M M' w w')(hB:∀k,M.own p k->B<=k)(hs:B<=w.heap.size):Below B w w':=⟨h.os,h.tape,h.output,h.size,fun k b=>h.block k (by omega) (fun a=>by have:=hB k a;omega)⟩
theorem ah.inn{p B:Nat}{M M':ay}{w w':World}(h:ah p M M' w w')(hB:∀k,M.own p k->B<=k)(hs:B<=w.heap.size):∀k,M'.own p k->B<=k:=fun k b=>by
 rcases h.fresh k b with a | a
 ·exact hB k a
 ·omega
theorem iC:(84:Nat)≠105/\(84:Nat)≠40/\(84:Nat)≠27/\(84:Nat)≠102/\(84:Nat)≠5/\(105:Nat)≠40/\(105:Nat)≠27/\(105:Nat)≠102/\(105:Nat)≠5/\(40:Nat)≠27/\(40:Nat)≠102/\(40:Nat)≠5/\(27:Nat)≠102/\(27:Nat)≠5/\(102:Nat)≠5:=by decide
theorem au{w:World}{base e b n:Nat}{a:Option Addr}{c:Nat}{xs:List Value}(h:w.ownsRow base e b (.slice a n c) n xs){k:Nat}(d:a.map (·.block)=some k):∃cur,w.heap[k]? =some (.cells cur e (0,0)):=fz h (by rw[al];exact d)
theorem aB{w:World}{k:Nat}{cs b:Array Value}{T c:TypeId}{fr a:Nat×Nat}(h:w.heap[k]? =some (.cells cs T fr))(h':w.heap[k]? =some (.cells b c a)):(T:Nat)=c:=by rw[h]at h';injection h' with h';injection h' with _ e _
theorem aE{w w':World}{base e a n:Nat}{v:Value}{xs:List Value}(h:w.ownsRow base e a v n xs)(hb:∀g,v.ownBlock=some g->w'.heap[g]? =w.heap[g]?):w'.ownsRow base e a v n xs:=by
 refine⟨h.1,?_⟩;rcases h.2 with⟨e,c⟩ | ⟨g,b,cur,e,l,k,j,i,f,d⟩
 ·exact .inl ⟨e,c⟩
 ·exact .inr ⟨g,b,cur,e,l,(hb g (by rw[e];rfl)).trans k,j,i,f,d⟩
section
variable {w w' : World} {p : Nat} {R R' : aa} {M M' : ay}
theorem ao.lt(h:ao w p R M):p<w.heap.size:=(Array.getElem?_eq_some_iff.1 h.row).1
theorem ao.kinds(h:ao w p R M){k:Nat}{cs:Array Value}{T:TypeId}{fr:Nat×Nat}(a:w.heap[k]? =some (.cells cs T fr))(ho:M.own p k):(T:Nat)=84\/(T:Nat)=105\/(T:Nat)=40\/(T:Nat)=27\/(T:Nat)=102:=by
 rcases ho with rfl | rfl | e | e | e
 ·exact .inl (aB a h.row)
 ·exact .inr (.inl (aB a h.ln.row))
 ·obtain⟨cur,b⟩:=au h.ln.own e;exact .inr (.inr (.inl (aB a b)))
 ·obtain⟨cur,b⟩:=au h.nw e;exact .inr (.inr (.inr (.inl (aB a b))))
 ·obtain⟨cur,b⟩:=au h.ou e;exact .inr (.inr (.inr (.inr (aB a b))))
theorem ao.notU8(h:ao w p R M){k:Nat}{cs:Array Value}{fr:Nat×Nat}(b:w.heap[k]? =some (.cells cs 5 fr)):¬M.own p k:=fun a=>by
 obtain⟨-, -, -, -,i, -, -, -,g, -, -,f, -,d,c⟩:=iC;rcases h.kinds b a with e | e | e | e | e
 ·exact i e.symm
 ·exact g e.symm
 ·exact f e.symm
 ·exact d e.symm
 ·exact c e.symm
theorem ao.keeps(h:ao w p R M)(ht:ah p M M' w w'){a:Option Addr}{c:Nat}{l:List UInt8}(e:cS w a c l):cS w' a c l:=OwnBs.grown (T:=5) e (fun k f fr b d=>ht.block k b (h.notU8 d)) ht.size
theorem cz.At.below{m:cz}(h:m.At w)(hb:Below w.heap.size w w'):m.At w':=⟨h.own.below hb,h.eq,h.b.below hb⟩
theorem cz.At.block{m:cz}(h:m.At w){k:Nat}(a:m.ia.map (·.block)=some k):k<w.heap.size:=by obtain⟨cur,b⟩:=au h.own.own a;exact(Array.getElem?_eq_some_iff.1 b).1
theorem cz.At.kept{m:cz}(h:m.At w)(hi:∀k,m.ia.map (·.block)=some k->w'.heap[k]? =w.heap[k]?)(hU:∀k cs fr,k<w.heap.size->w.heap[k]? =some (.cells cs 5 fr)->w'.heap[k]? =w.heap[k]?)(hs:w.heap.size<=w'.heap.size):m.At w':=⟨⟨aE h.own.own fun g a=>hi g (by rw[al]at a;exact a),fun y c=>OwnBs.grown (T:=5) (h.own.bs y c) hU hs⟩,h.eq,OwnBs.grown (T:=5) h.b hU hs⟩
theorem ao.postKeep(h:ao w p R M)(ht:ah p M M' w w')(e1:M'.ps=M.ps)(e2:M'.ocs=M.ocs):tM w' p M' R.out:=by
 refine⟨by rw[e1];exact h.po.q,by rw[e1,e2];exact h.po.c,fun m a=> ?_,fun m a k b e=> ?_⟩
 ·rw[e1]at a;exact(h.po.m m a).kept (fun k b=>ht.block k ((h.po.m m a).block b) (h.po.n m a k b)) (fun k i fr b f=>ht.block k b (h.notU8 f)) ht.size
 ·rw[e1]at a;have g:=(h.po.m m a).block b;rcases ht.fresh k e with d | d
  ·exact h.po.n m a k b d
  ·omega
theorem ao.below(h:ao w p R M)(hb:Below w.heap.size w w'):ao w' p R M:=⟨h.sv,(hb.block _ h.lt).trans h.row,h.ln.below hb,h.st.below hb,da h.nw hb,fun m a=>(h.nb m a).below hb,h.nq,da h.ou hb,h.oq,⟨h.po.q,h.po.c,fun m a=>(h.po.m m a).below hb,h.po.n⟩⟩
theorem ao.apart(h:ao w p R M):M.lb≠p/\M.la.map (·.block)≠some p/\M.na.map (·.block)≠some p/\M.oa.map (·.block)≠some p/\M.na.map (·.block)≠some M.lb/\M.oa.map (·.block)≠some M.lb/\(∀k,M.la.map (·.block)=some k->M.na.map (·.block)≠some k/\M.oa.map (·.block)≠some k)/\(∀k,M.na.map (·.block)=some k->M.oa.map (·.block)≠some k):=by
 obtain⟨r,m,t3,l,v,t,j,i,s,g,f,q,d,o,n⟩:=iC;refine⟨fun e=> ?_,fun e=> ?_,fun e=> ?_,fun e=> ?_,fun e=> ?_,fun e=> ?_,fun k e=>⟨fun e'=> ?_,fun e'=> ?_⟩,fun k e e'=> ?_⟩
 ·have b:=h.ln.row;rw[e]at b;exact r (aB h.row b)
 ·obtain⟨cur,a⟩:=au h.ln.own e;exact m (aB h.row a)
 ·obtain⟨cur,a⟩:=au h.nw e;exact t3 (aB h.row a)
 ·obtain⟨cur,a⟩:=au h.ou e;exact l (aB h.row a)
 ·obtain⟨cur,a⟩:=au h.nw e;exact j (aB h.ln.row a)
 ·obtain⟨cur,a⟩:=au h.ou e;exact i (aB h.ln.row a)
 ·obtain⟨c1,b⟩:=au h.ln.own e;obtain⟨c2,c⟩:=au h.nw e';exact g (aB b c)
 ·obtain⟨c1,b⟩:=au h.ln.own e;obtain⟨c2,c⟩:=au h.ou e';exact f (aB b c)
 ·obtain⟨c1,b⟩:=au h.nw e;obtain⟨c2,c⟩:=au h.ou e';exact d (aB b c)
theorem ao.turn(h:ao w p R M)(hs:rJ R')(hrow:w'.heap[p]? =some (.cells (aP R' M).toArray 84 (0,0)))(ho:∀k,k≠p->w'.heap[k]? =w.heap[k]?)(hos:w'.os=w.os)(htp:w'.tape=w.tape)(hou:w'.output=w.output)(hsz:w'.heap.size=w.heap.size)
 (d:R'.line=R.line)(hst:R'.state=R.state)(hn:R'.news=R.news)(hp:R'.out=R.out):ao w' p R' M/\ah p M M w w':=by
 have hT:ah p M M w w':=⟨hos,htp,hou,by omega,fun k _ c=>ho k (fun e=>c (.inl e)),fun _ h=> .inl h⟩
 obtain⟨n,l,j,i, -⟩:=h.apart;refine⟨⟨hs,hrow,?_,by rw[hst];exact h.keeps hT h.st,aE h.nw fun g a=>ho g (fun e=>by rw[al]at a;exact j (by rw[<-e];exact a)),fun m b=>h.keeps hT (h.nb m b),by rw[hn];exact h.nq,aE h.ou fun g a=>ho g (fun e=>by rw[al]at a;exact i (by rw[<-e];exact a)),by rw[hp];exact h.oq,by rw[hp];exact h.postKeep hT rfl rfl⟩,hT⟩;rw[d];exact⟨(ho _ n).trans h.ln.row,aE h.ln.own fun g a=>ho g (fun e=>by rw[al]at a;exact l (by rw[<-e];exact a)),h.ln.its,fun m b=>OwnBs.grown (T:=5) (h.ln.bs m b) (fun k o fr c f=>hT.block k c (h.notU8 f)) hT.size,Nat.zero_le _⟩
theorem ao.set(h:ao w p R M)(i:Nat)(x:Value)(hc:(aP R M).set i x=aP R' M)(hs:rJ R')(hl:R'.line=R.line)(hst:R'.state=R.state)(hn:R'.news=R.news)(hp:R'.out=R.out):ao (w.setCell ⟨p,i,none⟩ x) p R' M/\ah p M M w (w.setCell ⟨p,i,none⟩ x):=by
 have b:=heap_setCell_same w p i _ _ x h.row;refine h.turn hs ?_ (fun k a=>Below.heap_setCell _ _ _ k a) rfl rfl rfl (by simp) hl hst hn hp;rw[b,<-hc]
 simp
theorem ao.lnKeep(h:ao w p R M)(hT:ah p M M' w w')(h1:w'.heap[M.lb]? =w.heap[M.lb]?)(h2:∀k,M.la.map (·.block)=some k->w'.heap[k]? =w.heap[k]?):cE w' 0 M.lb R.line M.la M.lc M.ms:=⟨h1.trans h.ln.row,aE h.ln.own fun g a=>h2 g (by rw[al]at a;exact a),h.ln.its,fun m b=>OwnBs.grown (T:=5) (h.ln.bs m b) (fun k e fr c d=>hT.block k c (h.notU8 d)) hT.size,Nat.zero_le _⟩
theorem ao.note(h:ao w p R M){w1:World}{a:Option Addr}{c:Nat}{m:aV}(B:cS w m.a m.c m.b)(ho:w1.ownsRow 0 27 1 (.slice a (M.ns.length+1) c) (M.ns.length+1) (M.ns.map aV.cell++ [m.cell]))
 (i:w.grownBy w1 (Value.slice M.na M.ns.length M.nc).ownBlock)(ha:(Value.slice a (M.ns.length+1) c).ownBlock=(Value.slice M.na M.ns.length M.nc).ownBlock\/(Value.slice a (M.ns.length+1) c).ownBlock=some w.heap.size):
  ao (w1.setCell ⟨p,33,none⟩ (.slice a (M.ns.length+1) c)) p { R with news:=R.news++ [m.b] } { M with na:=a,nc:=c,ns:=M.ns++ [m] }/\ah p M { M with na:=a,nc:=c,ns:=M.ns++ [m] } w (w1.setCell ⟨p,33,none⟩ (.slice a (M.ns.length+1) c)):=by
 have A:=h.lt;have z:=i.size;rw[al]at i ha;rw[al]at ha;obtain⟨I,H,y,G,F,J,D,C⟩:=h.apart;have s:M.lb<w.heap.size:=(Array.getElem?_eq_some_iff.1 h.ln.row).1;have n:w1.heap[p]? =some (.cells (aP R M).toArray 84 (0,0)):=(i.block p A (fun e=>y e.symm)).trans h.row;have f:∀k,k≠p->(w1.setCell ⟨p,33,none⟩ (.slice a (M.ns.length+1) c)).heap[k]? =w1.heap[k]? :=fun k l=>Below.heap_setCell _ _ _ k l
 have hT:ah p M { M with na:=a,nc:=c,ns:=M.ns++ [m] } w (w1.setCell ⟨p,33,none⟩ (.slice a (M.ns.length+1) c)):=by
  refine⟨i.os,i.tape,i.output,by simpa using z,fun k l o=>(f k (fun e=>o (.inl e))).trans (i.block k l (fun e=>o (.inr (.inr (.inr (.inl e.symm)))))),fun k l=> ?_⟩;rcases l with e | e | e | e | e
  ·exact .inl (.inl e)
  ·exact .inl (.inr (.inl e))
  ·exact .inl (.inr (.inr (.inl e)))
  ·rcases ha with q | q
   ·exact .inl (.inr (.inr (.inr (.inl (q.symm.trans e)))))
   ·right;rw[q]at e;injection e with e;omega
  ·exact .inl (.inr (.inr (.inr (.inr e))))
 have q:=heap_setCell_same w1 p 33 _ _ (.slice a (M.ns.length+1) c) n;refine⟨⟨h.sv.cp rfl rfl rfl,?_,h.lnKeep hT ((f _ I).trans (i.block _ s (fun e=>F e.symm))) fun k l=> ?_,h.keeps hT h.st,?_,fun x r=> ?_,by simp[h.nq],aE h.ou fun g d=> ?_,h.oq,h.postKeep hT rfl rfl⟩,hT⟩
 ·rw[q,<-dt (R:=R) (R':={ R with news:=R.news++ [m.b] }) (M:=M) (M':={ M with na:=a,nc:=c,ns:=M.ns++ [m] }) h.sv (j:=1) (x:= .slice a (M.ns.length+1) c) (by omega) (by simp[je]) rfl rfl rfl rfl]
  simp
 ·obtain⟨cur,t⟩:=au h.ln.own l;exact(f k (fun e=>H (by rw[<-e];exact l))).trans (i.block k (Array.getElem?_eq_some_iff.1 t).1 (fun e=>(D k l).1 e.symm))
 ·rw[show(M.ns++ [m]).length=M.ns.length+1 by simp,List.map_append];refine aE ho fun g d=>f g (fun e=> ?_)
  rw[al]at d;rcases ha with v | v
  ·exact y (by rw[<-v,d,e])
  ·rw[v]at d;injection d with d;omega
 ·simp only[List.mem_append,List.mem_singleton]at r;rcases r with r | rfl
  ·exact h.keeps hT (h.nb x r)
  ·exact h.keeps hT B
 ·rw[al]at d;obtain⟨cur,t⟩:=au h.ou d;exact(f g (fun e=>G (by rw[<-e];exact d))).trans (i.block g (Array.getElem?_eq_some_iff.1 t).1 (fun e=>C g e.symm d))
theorem ao.posted(h:ao w p R M){w1:World}{a:Option Addr}{c:Nat}{m:cz}(v:m.At w)(hmN:∀k,m.ia.map (·.block)=some k->¬M.own p k)(ho:w1.ownsRow 0 102 9 (.slice a (M.on+1) c) (M.on+1) (M.ocs++m.cells))
 (o:w.grownBy w1 (Value.slice M.oa M.on M.oc).ownBlock)(ha:(Value.slice a (M.on+1) c).ownBlock=(Value.slice M.oa M.on M.oc).ownBlock\/(Value.slice a (M.on+1) c).ownBlock=some w.heap.size):
  ao (w1.setCell ⟨p,34,none⟩ (.slice a (M.on+1) c)) p { R with out:=R.out++ [m.p] } { M with oa:=a,on:=M.on+1,oc:=c,ocs:=M.ocs++m.cells,ps:=M.ps++ [m] }/\ah p M { M with oa:=a,on:=M.on+1,oc:=c,ocs:=M.ocs++m.cells,ps:=M.ps++ [m] } w (w1.setCell ⟨p,34,none⟩ (.slice a (M.on+1) c)):=by
 have H:=h.lt;have G:=o.size;rw[al]at o ha;rw[al]at ha;obtain⟨P,O,N,D,U,L,J,I⟩:=h.apart;have B:M.lb<w.heap.size:=(Array.getElem?_eq_some_iff.1 h.ln.row).1;have s:w1.heap[p]? =some (.cells (aP R M).toArray 84 (0,0)):=(o.block p H (fun e=>D e.symm)).trans h.row;have d:∀k,k≠p->(w1.setCell ⟨p,34,none⟩ (.slice a (M.on+1) c)).heap[k]? =w1.heap[k]? :=fun k f=>Below.heap_setCell _ _ _ k f
 have hT:ah p M { M with oa:=a,on:=M.on+1,oc:=c,ocs:=M.ocs++m.cells,ps:=M.ps++ [m] } w (w1.setCell ⟨p,34,none⟩ (.slice a (M.on+1) c)):=by
  refine⟨o.os,o.tape,o.output,by simpa using G,fun k f t=>(d k (fun e=>t (.inl e))).trans (o.block k f (fun e=>t (.inr (.inr (.inr (.inr e.symm)))))),fun k f=> ?_⟩;rcases f with e | e | e | e | e
  ·exact .inl (.inl e)
  ·exact .inl (.inr (.inl e))
  ·exact .inl (.inr (.inr (.inl e)))
  ·exact .inl (.inr (.inr (.inr (.inl e))))
  ·rcases ha with r | r
   ·exact .inl (.inr (.inr (.inr (.inr (r.symm.trans e)))))
   ·right;rw[r]at e;injection e with e;omega
 have r:=heap_setCell_same w1 p 34 _ _ (.slice a (M.on+1) c) s;refine⟨⟨h.sv.cp rfl rfl rfl,?_,h.lnKeep hT ((d _ P).trans (o.block _ B (fun e=>L e.symm))) fun k f=> ?_,h.keeps hT h.st,aE h.nw fun g b=> ?_,fun x F=>h.keeps hT (h.nb x F),h.nq,?_,by simp[h.oq],⟨by simp[h.po.q],by simp[h.po.c],fun z l=> ?_,fun z l k f A=> ?_⟩⟩,hT⟩
 ·rw[r,<-dt (R:=R) (R':={ R with out:=R.out++ [m.p] }) (M:=M) (M':={ M with oa:=a,on:=M.on+1,oc:=c,ocs:=M.ocs++m.cells,ps:=M.ps++ [m] }) h.sv (j:=2) (x:= .slice a (M.on+1) c) (by omega) (by simp[je]) rfl rfl rfl rfl]
  simp
 ·obtain⟨cur,y⟩:=au h.ln.own f;exact(d k (fun e=>O (by rw[<-e];exact f))).trans (o.block k (Array.getElem?_eq_some_iff.1 y).1 (fun e=>(J k f).2 e.symm))
 ·rw[al]at b;obtain⟨cur,y⟩:=au h.nw b;exact(d g (fun e=>N (by rw[<-e];exact b))).trans (o.block g (Array.getElem?_eq_some_iff.1 y).1 (fun e=>I g b e.symm))
 ·refine aE ho fun g b=>d g (fun e=> ?_)
  rw[al]at b;rcases ha with C | C
  ·exact D (by rw[<-C,b,e])
  ·rw[C]at b;injection b with b;omega
 ·have i:z.At w/\∀k,z.ia.map (·.block)=some k->¬M.own p k:=by
   simp only[List.mem_append,List.mem_singleton]at l;rcases l with l | rfl
   ·exact⟨h.po.m z l,h.po.n z l⟩
   ·exact⟨v,hmN⟩
  exact i.1.kept (fun k f=>hT.block k (i.1.block f) (i.2 k f)) (fun k T fr f y=>hT.block k f (h.notU8 y)) hT.size
 ·have i:z.At w/\∀k,z.ia.map (·.block)=some k->¬M.own p k:=by
   simp only[List.mem_append,List.mem_singleton]at l;rcases l with l | rfl
   ·exact⟨h.po.m z l,h.po.n z l⟩
   ·exact⟨v,hmN⟩
  have S:=i.1.block f;rcases hT.fresh k A with r | r
  ·exact i.2 k f r
  ·omega
theorem ao.lined(h:ao w p R M){w1:World}{x:ae}(q:dM 0 M.lb x (Value.slice M.la M.ms.length M.lc).ownBlock w w1):∃la lc ms,ao w1 p { R with line:=x } { M with la:=la,lc:=lc,ms:=ms }/\ah p M { M with la:=la,lc:=lc,ms:=ms } w w1:=by
 obtain⟨la,lc,ms,d,b,l⟩:=q;simp only[al]at b l;obtain⟨v,t,A,z,s,r,n,y⟩:=h.apart;have hT:ah p M { M with la:=la,lc:=lc,ms:=ms } w w1:=by
  refine⟨b.os,b.tape,b.output,b.size,fun k f c=>b.block k f (fun e=>c (.inr (.inl e))) (fun e=>c (.inr (.inr (.inl e.symm)))),fun k f=> ?_⟩;rcases f with e | e | e | e | e
  ·exact .inl (.inl e)
  ·exact .inl (.inr (.inl e))
  ·rcases l k e with j | j
   ·exact .inl (.inr (.inr (.inl j)))
   ·exact .inr j
  ·exact .inl (.inr (.inr (.inr (.inl e))))
  ·exact .inl (.inr (.inr (.inr (.inr e))))
 refine⟨la,lc,ms,⟨h.sv.cp rfl rfl rfl,(b.block p h.lt (fun e=>v e.symm) (fun e=>t e.symm)).trans h.row,d,h.keeps hT h.st,aE h.nw fun g a=> ?_,fun m o=>h.keeps hT (h.nb m o),h.nq,aE h.ou fun g a=> ?_,h.oq,h.postKeep hT rfl rfl⟩,hT⟩
 ·rw[al]at a;obtain⟨cur,i⟩:=au h.nw a;exact b.block g (Array.getElem?_eq_some_iff.1 i).1 (fun e=>s (by rw[<-e];exact a)) (fun e=>(n g e.symm).1 a)
 ·rw[al]at a;obtain⟨cur,i⟩:=au h.ou a;exact b.block g (Array.getElem?_eq_some_iff.1 i).1 (fun e=>r (by rw[<-e];exact a)) (fun e=>(n g e.symm).2 a)
theorem wR{G:World->Nat->Option Addr->Nat->Prop}{P:Prop}(F:World->Nat->Option Addr->Nat->Prop)(main:(∀U n a c,F U n a c->G U n a c)->P)(key:∀U n a c,F U n a c->G U n a c):P:=main key
end
end Go.Proofs.YtogcnfhmcpkdcaaGreat
