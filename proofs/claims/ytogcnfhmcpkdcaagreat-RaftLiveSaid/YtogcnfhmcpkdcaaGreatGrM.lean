/-
A group of replicas in memory: its rows, its replicas, and what each turning leaves as it was. No walk.
-/
import Derived.Test.YtogcnfhmcpkdcaaGreatRaftM3
namespace Go.Proofs.YtogcnfhmcpkdcaaGreat
open Go.RowKit
set_option linter.unusedVariables false
set_option linter.unusedSimpArgs false
abbrev fO:=Int×Int×List UInt8
structure ac where
 rs:List aa
 hd:List (List UInt8)
 nt:List (List (List UInt8))
 ats:List Int
 bag:List fO
 seen:List ar
 wh:List Int
 led:List (Int×Int)
 right:Bool
structure bE where
 f:Int
 t:Int
 a:Option Addr
 c:Nat
 b:List UInt8
def bE.cells(m:bE):List Value:= [.int .i64 m.f, .int .i64 m.t, .slice m.a m.b.length m.c]
def bE.p(m:bE):fO:=(m.f,m.t,m.b)
structure d9 where
 a:Option Addr
 c:Nat
 ns:List aV
def d9.cell(t:d9):Value:= .slice t.a t.ns.length t.c
def d9.p(t:d9):List (List UInt8):=t.ns.map aV.b
structure bG where
 ra:Nat->Option Addr
 rc:Nat->Nat
 ps:List (Nat×ay)
 hs:List aV
 ts:List d9
 ms:List bE
 ss:List af
def i8(q:Nat×ay):Value:= .pointer (some ⟨q.1,0,none⟩)
def eU(p:Int×Int):List Value:= [.int .i64 p.1, .int .i64 p.2]
def rowT:Nat->TypeId
 | 0=>25
 | 1=>27
 | 2=>29
 | 3=>3
 | 4=>99
 | 5=>40
 | 6=>3
 | _=>80
def rT:Nat->Nat
 | 4=>3
 | 5=>2
 | 7=>2
 | _=>1
def bR(G:ac)(M:bG):Nat->Nat
 | 0=>M.ps.length
 | 1=>M.hs.length
 | 2=>M.ts.length
 | 3=>G.ats.length
 | 4=>M.ms.length
 | 5=>M.ss.length
 | 6=>G.wh.length
 | _=>G.led.length
def cu(G:ac)(M:bG):Nat->List Value
 | 0=>M.ps.map i8
 | 1=>M.hs.map aV.cell
 | 2=>M.ts.map d9.cell
 | 3=>G.ats.map iz
 | 4=>M.ms.flatMap bE.cells
 | 5=>aK M.ss
 | 6=>G.wh.map iz
 | _=>G.led.flatMap eU
def aY(G:ac)(M:bG)(i:Nat):Value:= .slice (M.ra i) (bR G M i) (M.rc i)
def ce(G:ac)(M:bG):Array Value:=#[aY G M 0,aY G M 1,aY G M 2,aY G M 3,aY G M 4,aY G M 5,aY G M 6,aY G M 7, .bool G.right]
inductive GN
 | g
 | row (i:Nat)
 | raft (i:Nat)
 | nts (i:Nat)
def bG.own(g:Nat)(M:bG):GN->Nat->Prop
 | .g,k=>k=g
 | .row i,k=>i<8/\(M.ra i).map (·.block)=some k
 | .raft i,k=>∃q:Nat×ay,M.ps[i]? =some q/\q.2.own q.1 k
 | .nts i,k=>∃t:d9,M.ts[i]? =some t/\t.a.map (·.block)=some k
structure rG (w:World) (G:ac) (M:bG):Prop where
 hq:M.hs.map aV.b=G.hd
 hb:∀m∈M.hs,cS w m.a m.c m.b
 tq:M.ts.map d9.p=G.nt
 tr:∀t∈M.ts,w.ownsRow 0 27 1 t.cell t.ns.length (t.ns.map aV.cell)
 tb:∀t∈M.ts,∀m∈t.ns,cS w m.a m.c m.b
 bq:M.ms.map bE.p=G.bag
 bb:∀m∈M.ms,cS w m.a m.c m.b
 sq:M.ss.map af.it=G.seen
 sb:∀m∈M.ss,OwnBs 5 w m
structure aA (w:World) (B g c:Nat) (G:ac) (M:bG):Prop where
 row:w.heap[g]? =some (.cells (ce G M) 67 (0,0))
 rows:∀i,i<8->w.ownsRow 0 (rowT i) (rT i) (aY G M i) (bR G M i) (cu G M i)
 rl:M.ps.length=G.rs.length
 rf:∀(i:Nat) (R:aa) (q:Nat×ay),G.rs[i]? =some R->M.ps[i]? =some q->ao w q.1 R q.2
 eo:∀(i:Nat) (q:Nat×ay),i≠c->M.ps[i]? =some q->q.2.ps= []
 ct:rG w G M
 inn:∀x k,M.own g x k->B<=k
 dis:∀x y k,M.own g x k->M.own g y k->x=y
 bs:B<=w.heap.size
structure lP (g:Nat) (M:bG) (S:GN->Prop) (w w':World):Prop where
 os:w'.os=w.os
 tape:w'.tape=w.tape
 output:w'.output=w.output
 size:w.heap.size<=w'.heap.size
 block:∀k,k<w.heap.size->(∀x,M.own g x k->¬S x)->w'.heap[k]? =w.heap[k]?
theorem rO:(67:Nat)≠5/\(25:Nat)≠5/\(27:Nat)≠5/\(29:Nat)≠5/\(3:Nat)≠5/\(99:Nat)≠5/\(40:Nat)≠5/\(80:Nat)≠5:=by decide
section
variable {w w' : World} {B g c : Nat} {G G' : ac} {M M' : bG} {S : GN -> Prop}
theorem rU(i:Nat):(rowT i:Nat)≠5:=by obtain⟨-,f,e,t3,d,c,b,a⟩:=rO;unfold rowT;split<;>assumption
theorem aA.owned(h:aA w B g c G M){x:GN}{k:Nat}(d:M.own g x k):∃cs T fr,w.heap[k]? =some (.cells cs T fr)/\(T:Nat)≠5:=by
 cases x with
 | g=>have d:k=g:=d;subst d;exact⟨_,_,_,h.row,rO.1⟩
 | row i=>obtain⟨o,n⟩:i<8/\(M.ra i).map (·.block)=some k:=d;obtain⟨cur,b⟩:=au (h.rows i o) n;exact⟨_,_,_,b,rU i⟩
 | raft i=>
  obtain⟨q,p,C⟩:∃q:Nat×ay,M.ps[i]? =some q/\q.2.own q.1 k:=d;have o:i<G.rs.length:=by rw[<-h.rl];exact(List.getElem?_eq_some_iff.1 p).1
  have f:=h.rf i _ q (List.getElem?_eq_getElem o) p;obtain⟨L,J,t3,I,s,H,F,D,r,z,y,m,v,l,j⟩:=iC;rcases C with e | e | e | e | e
  ·rw[e];exact⟨_,_,_,f.row,s⟩
  ·rw[e];exact⟨_,_,_,f.ln.row,r⟩
  ·obtain⟨cur,b⟩:=au f.ln.own e;exact⟨_,_,_,b,m⟩
  ·obtain⟨cur,b⟩:=au f.nw e;exact⟨_,_,_,b,l⟩
  ·obtain⟨cur,b⟩:=au f.ou e;exact⟨_,_,_,b,j⟩
 | nts i=>obtain⟨t,A,n⟩:∃t:d9,M.ts[i]? =some t/\t.a.map (·.block)=some k:=d;obtain⟨cur,b⟩:=au (h.ct.tr t (List.mem_of_getElem? A)) n;exact⟨_,_,_,b,rO.2.2.1⟩
theorem aA.lt(h:aA w B g c G M){x:GN}{k:Nat}(a:M.own g x k):k<w.heap.size:=by obtain⟨d,T,fr,b, -⟩:=h.owned a;exact(Array.getElem?_eq_some_iff.1 b).1
theorem aA.notU8(h:aA w B g c G M){x:GN}{k:Nat}(b:M.own g x k){cs:Array Value}{fr:Nat×Nat}(d:w.heap[k]? =some (.cells cs 5 fr)):False:=by obtain⟨f,T,e,a,hT⟩:=h.owned b;exact hT (aB a d)
theorem aA.u8(h:aA w B g c G M)(hf:lP g M S w w'):∀k cs fr,k<w.heap.size->w.heap[k]? =some (.cells cs 5 fr)->w'.heap[k]? =w.heap[k]? :=fun k cs fr b d=>hf.block k b (fun x a=>(h.notU8 a d).elim)
theorem aA.bytes(h:aA w B g c G M)(hf:lP g M S w w'){a:Option Addr}{n:Nat}{l:List UInt8}(b:cS w a n l):cS w' a n l:=OwnBs.grown (T:=5) b (h.u8 hf) hf.size
theorem aA.item(h:aA w B g c G M)(hf:lP g M S w w'){m:af}(a:OwnBs 5 w m):OwnBs 5 w' m:=OwnBs.grown (T:=5) a (h.u8 hf) hf.size
theorem aA.stay(h:aA w B g c G M)(hf:lP g M S w w'){x:GN}{k:Nat}(a:M.own g x k)(hs:¬S x):w'.heap[k]? =w.heap[k]? :=hf.block k (h.lt a) (fun y b d=>hs (h.dis x y k a b ▸ d))
theorem aA.rowStay(h:aA w B g c G M)(hf:lP g M S w w'){i:Nat}(b:i<8)(hs:¬S (.row i)):w'.ownsRow 0 (rowT i) (rT i) (aY G M i) (bR G M i) (cu G M i):=aE (h.rows i b) fun k a=>h.stay hf (x:= .row i) ⟨b,by rw[aY,al]at a;exact a⟩ hs
theorem aA.ntsStay(h:aA w B g c G M)(hf:lP g M S w w'){i:Nat}{t:d9}(a:M.ts[i]? =some t)(hs:¬S (.nts i)):w'.ownsRow 0 27 1 t.cell t.ns.length (t.ns.map aV.cell):=aE (h.ct.tr t (List.mem_of_getElem? a)) fun k b=>h.stay hf (x:= .nts i) ⟨t,a,by rw[d9.cell,al]at b;exact b⟩ hs
theorem aA.raftStay(h:aA w B g c G M)(hf:lP g M S w w'){i:Nat}{R:aa}{q:Nat×ay}(j:G.rs[i]? =some R)(hq:M.ps[i]? =some q)(hs:¬S (.raft i))(hl:∀m∈q.2.ps,∀k,m.ia.map (·.block)=some k->w'.heap[k]? =w.heap[k]?):ao w' q.1 R q.2:=by
 have a:=h.rf i R q j hq;have e:∀k,q.2.own q.1 k->w'.heap[k]? =w.heap[k]? :=fun k b=>h.stay hf (x:= .raft i) ⟨q,hq,b⟩ hs
 have f:=h.u8 hf;refine⟨a.sv,(e _ (.inl rfl)).trans a.row,⟨(e _ (.inr (.inl rfl))).trans a.ln.row,aE a.ln.own fun k b=>e k (.inr (.inr (.inl (by rw[al]at b;exact b)))),a.ln.its,fun m d=>OwnBs.grown (T:=5) (a.ln.bs m d) f hf.size,Nat.zero_le _⟩,OwnBs.grown (T:=5) a.st f hf.size,aE a.nw fun k b=>e k (.inr (.inr (.inr (.inl (by rw[al]at b;exact b))))),fun m d=>OwnBs.grown (T:=5) (a.nb m d) f hf.size,a.nq,aE a.ou fun k b=>e k (.inr (.inr (.inr (.inr (by rw[al]at b;exact b))))),a.oq,⟨a.po.q,a.po.c,fun m d=>(a.po.m m d).kept (hl m d) f hf.size,a.po.n⟩⟩
theorem aA.letters(h:aA w B g c G M)(hf:lP g M S w w'){i:Nat}{R:aa}{q:Nat×ay}(l:G.rs[i]? =some R)(hq:M.ps[i]? =some q)(hS:∀x k cs fr,S x->M.own g x k->w.heap[k]? =some (.cells cs 40 fr)->False):∀m∈q.2.ps,∀k,m.ia.map (·.block)=some k->w'.heap[k]? =w.heap[k]? :=fun m b k d=>by have a:=h.rf i R q l hq;obtain⟨cur,j⟩:=au (a.po.m m b).own.own d;exact hf.block k ((a.po.m m b).block d) (fun x e f=>hS x k _ _ f e j)
theorem aA.contStay(h:aA w B g c G M)(hf:lP g M S w w')(hs:∀i,¬S (.nts i)):rG w' G M:=
 ⟨h.ct.hq,fun m a=>h.bytes hf (h.ct.hb m a),h.ct.tq,fun t b=>by obtain⟨i,d⟩:=List.getElem?_of_mem b;exact h.ntsStay hf d (hs i),fun t b m a=>h.bytes hf (h.ct.tb t b m a),h.ct.bq,fun m a=>h.bytes hf (h.ct.bb m a),h.ct.sq,fun m a=>h.item hf (h.ct.sb m a)⟩
theorem lP.below(a:Below w.heap.size w w'):lP g M S w w':=⟨a.os,a.tape,a.output,a.size,fun k b _=>a.block k b⟩
theorem aA.below(h:aA w B g c G M)(hb:Below w.heap.size w w'):aA w' B g c G M:=by have a:lP g M (fun _=>False) w w':=lP.below hb;exact⟨(hb.block g (h.lt (x:= .g) rfl)).trans h.row,fun i d=>h.rowStay a d id,h.rl,fun i R q e b=>(h.rf i R q e b).below hb,h.eo,h.contStay a (fun _=>id),h.inn,h.dis,Nat.le_trans h.bs hb.size⟩
theorem aA.cur(h:aA w B g c G M)(he:∀q:Nat×ay,M.ps[c]? =some q->q.2.ps= [])(c':Nat):aA w B g c' G M:=
 ⟨h.row,h.rows,h.rl,h.rf,fun i q _ a=>by
  by_cases e:i=c
  ·subst e;exact he q a
  ·exact h.eo i q e a,h.ct,h.inn,h.dis,h.bs⟩
end
section
variable {w w' : World} {B g c : Nat} {G G' : ac} {M M' : bG} {S : GN -> Prop}
theorem aA.apart(h:aA w B g c G M){x:GN}(h1:∀y k,y≠x->M'.own g y k->M.own g y k)(h2:∀k,M'.own g x k->M.own g x k\/(B<=k/\∀y,¬M.own g y k)):(∀y k,M'.own g y k->B<=k)/\∀y z k,M'.own g y k->M'.own g z k->y=z:=by
 have d:∀y k,M'.own g y k->M.own g y k\/(y=x/\B<=k/\∀z,¬M.own g z k):=fun y k f=>by
  by_cases e:y=x
  ·subst e;rcases h2 k f with a | a
   ·exact .inl a
   ·exact .inr ⟨rfl,a⟩
  ·exact .inl (h1 y k e f)
 refine⟨fun y k f=> ?_,fun y z k j i=> ?_⟩
 ·rcases d y k f with a | ⟨-,a, -⟩
  ·exact h.inn y k a
  ·exact a
 ·rcases d y k j with a | ⟨m, -,a⟩<;>rcases d z k i with b | ⟨l, -,b⟩
  ·exact h.dis y z k a b
  ·exact absurd a (b y)
  ·exact absurd b (a z)
  ·rw[m,l]
theorem aA.free(h:aA w B g c G M){k:Nat}(b:w.heap.size<=k):B<=k/\∀y,¬M.own g y k:=⟨by have:=h.bs;omega,fun y a=>by have:=h.lt a;omega⟩
theorem aZ{α:Type}{l:List α}{i j:Nat}{x:α}(a:i<l.length):(l.set i x)[j]? =if j=i then some x else l[j]? :=by
 rw[List.getElem?_set];by_cases e:i=j
 ·subst e;rw[if_pos rfl,if_pos a,if_pos rfl]
 ·rw[if_neg e,if_neg (fun h=>e h.symm)]
theorem kg{α β:Type}(f:α->β){l:List α}{i:Nat}{x y:α}(a:l[i]? =some x)(hf:f y=f x):(l.set i y).map f=l.map f:=by
 apply List.ext_getElem?;intro j;rw[List.getElem?_map,List.getElem?_map,aZ (List.getElem?_eq_some_iff.1 a).1];by_cases e:j=i
 ·subst e;rw[if_pos rfl,a];simp[hf]
 ·rw[if_neg e]
theorem aA.putRaft{i:Nat}{R R':aa}{p:Nat}{N d:ay}(h:aA w B g i G M)(hR:G.rs[i]? =some R)(hq:M.ps[i]? =some (p,N))(hr:ao w' p R' d)(ht:ah p N d w w'):
  aA w' B g i { G with rs:=G.rs.set i R' } { M with ps:=M.ps.set i (p,d) }:=by
 have f:i<M.ps.length:=(List.getElem?_eq_some_iff.1 hq).1;have t:i<G.rs.length:=(List.getElem?_eq_some_iff.1 hR).1;have s:lP g M (fun x=>x= .raft i) w w':=⟨ht.os,ht.tape,ht.output,ht.size,fun k l C=>ht.block k l (fun D=>C (.raft i) ⟨_,hq,D⟩ rfl)⟩
 have F:∀j,cu { G with rs:=G.rs.set i R' } { M with ps:=M.ps.set i (p,d) } j=cu G M j:=fun j=>by unfold cu;split<;>first | rfl | exact kg i8 hq rfl
 have hN:∀j,bR { G with rs:=G.rs.set i R' } { M with ps:=M.ps.set i (p,d) } j=bR G M j:=fun j=>by unfold bR;split<;>first | rfl | simp
 have hV:∀j,aY { G with rs:=G.rs.set i R' } { M with ps:=M.ps.set i (p,d) } j=aY G M j:=fun j=>by unfold aY;rw[hN]
 have m:∀y k,y≠.raft i->({ M with ps:=M.ps.set i (p,d) }:bG).own g y k->M.own g y k:=fun y k A l=>by
  cases y with
  | g=>exact l
  | row j=>exact l
  | nts j=>exact l
  | raft j=>obtain⟨q,c,b⟩:∃q:Nat×ay,(M.ps.set i (p,d))[j]? =some q/\q.2.own q.1 k:=l;rw[aZ f,if_neg (fun e=>A (by rw[e]))]at c;exact⟨q,c,b⟩
 obtain⟨n,o⟩:=h.apart (M':={ M with ps:=M.ps.set i (p,d) }) (x:= .raft i) m (fun k l=>by
  obtain⟨q,c,b⟩:∃q:Nat×ay,(M.ps.set i (p,d))[i]? =some q/\q.2.own q.1 k:=l;rw[aZ f,if_pos rfl]at c;injection c with c;subst c;rcases ht.fresh k b with v | v
  ·exact .inl ⟨_,hq,v⟩
  ·exact .inr (h.free v))
 refine⟨?_,fun j r=> ?_,by simp[h.rl],fun j H q c b=> ?_,fun j q r b=> ?_,?_,n,o,Nat.le_trans h.bs ht.size⟩
 ·rw[show ce { G with rs:=G.rs.set i R' } { M with ps:=M.ps.set i (p,d) }=ce G M by unfold ce;simp only[hV]];exact(h.stay s (x:= .g) rfl (fun e=>by cases e)).trans h.row
 ·rw[hV,hN,F];exact h.rowStay s r (fun e=>by cases e)
 ·have c:(G.rs.set i R')[j]? =some H:=c;have b:(M.ps.set i (p,d))[j]? =some q:=b;rw[aZ t]at c;rw[aZ f]at b;by_cases e:j=i
  ·rw[if_pos e]at c b;injection c with c;injection b with b;subst c b;exact hr
  ·rw[if_neg e]at c b;exact h.raftStay s c b (fun z=>by injection z with z;exact e z) (by rw[h.eo j q e b];simp)
 ·have b:(M.ps.set i (p,d))[j]? =some q:=b;rw[aZ f,if_neg r]at b;exact h.eo j q r b
 ·have a:=h.contStay s (fun j e=>by cases e);exact⟨a.hq,a.hb,a.tq,a.tr,a.tb,a.bq,a.bb,a.sq,a.sb⟩
theorem aA.putRow{i:Nat}(I:i<8)(h:aA w B g c G M)(hf:lP g M (fun x=>x= .g\/x= .row i) w w')(hrow:w'.heap[g]? =some (.cells (ce G' M') 67 (0,0)))
 (o:w'.ownsRow 0 (rowT i) (rT i) (aY G' M' i) (bR G' M' i) (cu G' M' i))(hN:∀j,j<8->j≠i->bR G' M' j=bR G M j)(hX:∀j,j<8->j≠i->cu G' M' j=cu G M j)(hra:∀j,j≠i->M'.ra j=M.ra j)(hrc:∀j,j≠i->M'.rc j=M.rc j)
 (p:∀k,(M'.ra i).map (·.block)=some k->(M.ra i).map (·.block)=some k\/w.heap.size<=k)(hps:M'.ps=M.ps)(hrs:G'.rs=G.rs)(hts:∀(j:Nat) (t:d9),M'.ts[j]? =some t->t.a≠none->M.ts[j]? =some t)(hct:rG w' G' M')(hl:i≠5\/∀q:Nat×ay,M.ps[c]? =some q->q.2.ps= []):aA w' B g c G' M':=by
 have l:∀y k,y≠.row i->M'.own g y k->M.own g y k:=fun y k H m=>by
  cases y with
  | g=>exact m
  | row j=>obtain⟨f,b⟩:j<8/\(M'.ra j).map (·.block)=some k:=m;rw[hra j (fun e=>H (by rw[e]))]at b;exact⟨f,b⟩
  | nts j=>obtain⟨t,f,b⟩:∃t:d9,M'.ts[j]? =some t/\t.a.map (·.block)=some k:=m;exact⟨t,hts j t f (fun e=>by rw[e]at b;cases b),b⟩
  | raft j=>obtain⟨q,f,b⟩:∃q:Nat×ay,M'.ps[j]? =some q/\q.2.own q.1 k:=m;rw[hps]at f;exact⟨q,f,b⟩
 obtain⟨r,s⟩:=h.apart (M':=M') (x:= .row i) l (fun k m=>by
  obtain⟨f,b⟩:i<8/\(M'.ra i).map (·.block)=some k:=m;rcases p k b with v | v
  ·exact .inl ⟨I,v⟩
  ·exact .inr (h.free v))
 refine⟨hrow,fun j n=> ?_,by rw[hps,hrs];exact h.rl,fun j P q f b=> ?_,fun j q n b=>h.eo j q n (by rw[<-hps];exact b),hct,r,s,Nat.le_trans h.bs hf.size⟩
 ·by_cases e:j=i
  ·subst e;exact o
  ·rw[show aY G' M' j=aY G M j by unfold aY;rw[hra j e,hrc j e,hN j n e],hN j n e,hX j n e];exact h.rowStay hf n (fun d=>by rcases d with d | d<;>cases d;exact e rfl)
 ·rw[hrs]at f;rw[hps]at b;refine h.raftStay hf f b (fun d=>by rcases d with d | d<;>cases d) ?_;by_cases e:j=c
  ·rcases hl with F | F
   ·refine h.letters hf f b (fun x k O fr J z D=> ?_);rcases J with d | d
    ·subst d;have z:k=g:=z;subst z;have A:=aB h.row D;exact absurd A (by decide)
    ·subst d;obtain⟨N,L⟩:i<8/\(M.ra i).map (·.block)=some k:=z;obtain⟨cur,A⟩:=au (h.rows i N) L;have v:=aB A D;have C:i=0\/i=1\/i=2\/i=3\/i=4\/i=6\/i=7:=by omega
     rcases C with rfl | rfl | rfl | rfl | rfl | rfl | rfl<;>exact absurd v (by decide)
   ·subst e;rw[F q b];simp
  ·rw[h.eo j q e b];simp
theorem aA.setRight(h:aA w B g c G M)(b:Bool):aA (w.setCell ⟨g,8,none⟩ (.bool b)) B g c { G with right:=b } M:=by
 have d:∀k,k≠g->(w.setCell ⟨g,8,none⟩ (.bool b)).heap[k]? =w.heap[k]? :=fun k f=>Below.heap_setCell _ _ _ k f
 have o:lP g M (fun x=>x= .g\/x= .row 0) w (w.setCell ⟨g,8,none⟩ (.bool b)):=⟨rfl,rfl,rfl,by simp,fun k f m=>d k (fun e=>m .g e (.inl rfl))⟩
 have l:lP g M (fun x=>x= .g) w (w.setCell ⟨g,8,none⟩ (.bool b)):=⟨rfl,rfl,rfl,by simp,fun k f m=>d k (fun e=>m .g e rfl)⟩
 have n:∀j,cu { G with right:=b } M j=cu G M j:=fun j=>by unfold cu;split<;>rfl
 have hN:∀j,bR { G with right:=b } M j=bR G M j:=fun j=>by unfold bR;split<;>rfl
 have hV:∀j,aY { G with right:=b } M j=aY G M j:=fun j=>by unfold aY;rw[hN]
 have p:=h.rowStay l (i:=0) (by omega) (fun e=>by cases e);have a:=h.contStay l (fun j e=>by cases e);refine h.putRow (i:=0) (by omega) o ?_ (by rw[hV,hN,n];exact p) (fun j _ _=>hN j) (fun j _ _=>n j) (fun _ _=>rfl) (fun _ _=>rfl) (fun k f=> .inl f) rfl rfl (fun _ _ h _=>h) ⟨a.hq,a.hb,a.tq,a.tr,a.tb,a.bq,a.bb,a.sq,a.sb⟩ (.inl (by omega));rw[heap_setCell_same w g 8 _ _ (.bool b) h.row]
 congr 2
theorem aA.stored(h:aA w B g c G M){i:Nat}(f:i<8){b cap:Nat}(d:aY G M i= .slice (some ⟨b,0,none⟩) (bR G M i) cap)(j:Nat)(u:Value):
  (w.setCell ⟨b,j,none⟩ u).ownsRow 0 (rowT i) (rT i) (aY G M i) (bR G M i) ((cu G M i).set j u)/\lP g M (fun x=>x= .g\/x= .row i) w (w.setCell ⟨b,j,none⟩ u)/\lP g M (fun x=>x= .row i) w (w.setCell ⟨b,j,none⟩ u)/\b≠g:=by
 have o:=h.rows i f;rw[d]at o;obtain⟨p,a⟩:=o.stored j u;have n:(M.ra i).map (·.block)=some b:=by unfold aY at d;injection d with e1 _ _;rw[e1];rfl
 refine⟨by rw[d];exact p,⟨a.os,a.tape,a.output,a.size,fun k m l=>a.block k m (fun e=> ?_)⟩,⟨a.os,a.tape,a.output,a.size,fun k m l=>a.block k m (fun e=> ?_)⟩,fun e=> ?_⟩
 ·injection e with e;subst e;exact l (.row i) ⟨f,n⟩ (.inr rfl)
 ·injection e with e;subst e;exact l (.row i) ⟨f,n⟩ rfl
 ·subst e;have:=h.dis .g (.row i) b rfl ⟨f,n⟩;cases this
theorem lX(h:aA w B g c G M){i:Nat}(a:i<8)(hn:0<bR G M i):∃b cap,aY G M i= .slice (some ⟨b,0,none⟩) (bR G M i) cap:=by
 rcases (h.rows i a).2 with⟨_,d⟩ | ⟨b,cap,cur,e, -⟩
 ·omega
 ·exact⟨b,cap,e⟩
theorem aA.setAt(h:aA w B g c G M){i:Nat}(r:i<G.ats.length){b cap:Nat}(f:aY G M 3= .slice (some ⟨b,0,none⟩) G.ats.length cap)(x:Int):aA (w.setCell ⟨b,i,none⟩ (iz x)) B g c { G with ats:=G.ats.set i x } M:=by
 obtain⟨q,n,d,o⟩:=h.stored (i:=3) (by omega) f i (iz x);have p:∀j,j≠3->cu { G with ats:=G.ats.set i x } M j=cu G M j:=fun j m=>by unfold cu;split<;>first | rfl | exact absurd rfl m
 have hN:∀j,bR { G with ats:=G.ats.set i x } M j=bR G M j:=fun j=>by unfold bR;split<;>first | rfl | simp
 have hV:∀j,aY { G with ats:=G.ats.set i x } M j=aY G M j:=fun j=>by unfold aY;rw[hN]
 have a:=h.contStay d (fun j e=>by cases e);refine h.putRow (i:=3) (by omega) n ?_ ?_ (fun j _ _=>hN j) (fun j _=>p j) (fun _ _=>rfl) (fun _ _=>rfl) (fun k l=> .inl l) rfl rfl (fun _ _ h _=>h) ⟨a.hq,a.hb,a.tq,a.tr,a.tb,a.bq,a.bb,a.sq,a.sb⟩ (.inl (by omega))
 ·rw[show ce { G with ats:=G.ats.set i x } M=ce G M by unfold ce;simp only[hV]];exact(h.stay d (x:= .g) rfl (fun e=>by cases e)).trans h.row
 ·rw[hV,hN,show cu { G with ats:=G.ats.set i x } M 3=(cu G M 3).set i (iz x) by show(G.ats.set i x).map iz=(G.ats.map iz).set i (iz x);rw[List.map_set]];exact q
theorem aA.setHead(h:aA w B g c G M){i:Nat}(v:i<M.hs.length){b cap:Nat}(n:aY G M 1= .slice (some ⟨b,0,none⟩) M.hs.length cap)(m:aV)(hm:cS w m.a m.c m.b):aA (w.setCell ⟨b,i,none⟩ m.cell) B g c { G with hd:=G.hd.set i m.b } { M with hs:=M.hs.set i m }:=by
 obtain⟨t,q,f,r⟩:=h.stored (i:=1) (by omega) n i m.cell;have s:∀j,j≠1->cu { G with hd:=G.hd.set i m.b } { M with hs:=M.hs.set i m } j=cu G M j:=fun j p=>by unfold cu;split<;>first | rfl | exact absurd rfl p
 have hN:∀j,bR { G with hd:=G.hd.set i m.b } { M with hs:=M.hs.set i m } j=bR G M j:=fun j=>by unfold bR;split<;>first | rfl | simp
 have hV:∀j,aY { G with hd:=G.hd.set i m.b } { M with hs:=M.hs.set i m } j=aY G M j:=fun j=>by unfold aY;rw[hN]
 have d:=h.contStay f (fun j e=>by cases e);refine h.putRow (i:=1) (by omega) q ?_ ?_ (fun j _ _=>hN j) (fun j _=>s j) (fun _ _=>rfl) (fun _ _=>rfl) (fun k o=> .inl o) rfl rfl (fun _ _ h _=>h) ⟨?_,fun y l=> ?_,d.tq,d.tr,d.tb,d.bq,d.bb,d.sq,d.sb⟩ (.inl (by omega))
 ·rw[show ce { G with hd:=G.hd.set i m.b } { M with hs:=M.hs.set i m }=ce G M by unfold ce;simp only[hV]];exact(h.stay f (x:= .g) rfl (fun e=>by cases e)).trans h.row
 ·rw[hV,hN,show cu { G with hd:=G.hd.set i m.b } { M with hs:=M.hs.set i m } 1=(cu G M 1).set i m.cell by show(M.hs.set i m).map aV.cell=(M.hs.map aV.cell).set i m.cell;rw[List.map_set]];exact t
 ·show(M.hs.set i m).map aV.b=G.hd.set i m.b;rw[List.map_set,h.ct.hq]
 ·rcases List.mem_or_eq_of_mem_set l with l | rfl
  ·exact d.hb y l
  ·exact h.bytes f hm
end
section
variable {w w' w1 : World} {B g c : Nat} {G G' : ac} {M M' : bG} {S : GN -> Prop}
theorem jJ{i:Nat}(a:i<8)(hV:∀j,j<8->j≠i->aY G' M' j=aY G M j)(hr:G'.right=G.right):(ce G M).setIfInBounds i (aY G' M' i)=ce G' M':=by
 have e:i=0\/i=1\/i=2\/i=3\/i=4\/i=5\/i=6\/i=7:=by omega
 unfold ce;rcases e with rfl | rfl | rfl | rfl | rfl | rfl | rfl | rfl
 ·rw[hr,hV 1 (by omega) (by omega),hV 2 (by omega) (by omega),hV 3 (by omega) (by omega),hV 4 (by omega) (by omega),hV 5 (by omega) (by omega),hV 6 (by omega) (by omega),hV 7 (by omega) (by omega)];rfl
 ·rw[hr,hV 0 (by omega) (by omega),hV 2 (by omega) (by omega),hV 3 (by omega) (by omega),hV 4 (by omega) (by omega),hV 5 (by omega) (by omega),hV 6 (by omega) (by omega),hV 7 (by omega) (by omega)];rfl
 ·rw[hr,hV 0 (by omega) (by omega),hV 1 (by omega) (by omega),hV 3 (by omega) (by omega),hV 4 (by omega) (by omega),hV 5 (by omega) (by omega),hV 6 (by omega) (by omega),hV 7 (by omega) (by omega)];rfl
 ·rw[hr,hV 0 (by omega) (by omega),hV 1 (by omega) (by omega),hV 2 (by omega) (by omega),hV 4 (by omega) (by omega),hV 5 (by omega) (by omega),hV 6 (by omega) (by omega),hV 7 (by omega) (by omega)];rfl
 ·rw[hr,hV 0 (by omega) (by omega),hV 1 (by omega) (by omega),hV 2 (by omega) (by omega),hV 3 (by omega) (by omega),hV 5 (by omega) (by omega),hV 6 (by omega) (by omega),hV 7 (by omega) (by omega)];rfl
 ·rw[hr,hV 0 (by omega) (by omega),hV 1 (by omega) (by omega),hV 2 (by omega) (by omega),hV 3 (by omega) (by omega),hV 4 (by omega) (by omega),hV 6 (by omega) (by omega),hV 7 (by omega) (by omega)];rfl
 ·rw[hr,hV 0 (by omega) (by omega),hV 1 (by omega) (by omega),hV 2 (by omega) (by omega),hV 3 (by omega) (by omega),hV 4 (by omega) (by omega),hV 5 (by omega) (by omega),hV 7 (by omega) (by omega)];rfl
 ·rw[hr,hV 0 (by omega) (by omega),hV 1 (by omega) (by omega),hV 2 (by omega) (by omega),hV 3 (by omega) (by omega),hV 4 (by omega) (by omega),hV 5 (by omega) (by omega),hV 6 (by omega) (by omega)];rfl
def fB{α:Type}(f:Nat->α)(i:Nat)(x:α):Nat->α:=fun j=>if j=i then x else f j
theorem dp{α:Type}(f:Nat->α)(i:Nat)(x:α):fB f i x i=x:=by simp[fB]
theorem cN{α:Type}(f:Nat->α){i j:Nat}(x:α)(h:j≠i):fB f i x j=f j:=by simp[fB,h]
theorem aA.grow{i:Nat}(y:i<8)(h:aA w B g c G M){a:Option Addr}{d c':Nat}{o:List Value}(H:w1.ownsRow 0 (rowT i) (rT i) (.slice a d c') d o)(hg:w.grownBy w1 (aY G M i).ownBlock)(ha:(Value.slice a d c').ownBlock=(aY G M i).ownBlock\/(Value.slice a d c').ownBlock=some w.heap.size)
 (v:bR G' M' i=d)(hX':cu G' M' i=o)(hra:M'.ra=fB M.ra i a)(hrc:M'.rc=fB M.rc i c')(hN:∀j,j<8->j≠i->bR G' M' j=bR G M j)(hX:∀j,j<8->j≠i->cu G' M' j=cu G M j)(hps:M'.ps=M.ps)(hrs:G'.rs=G.rs)(hts:∀(j:Nat) (t:d9),M'.ts[j]? =some t->t.a≠none->M.ts[j]? =some t)(hrt:G'.right=G.right)
 (C:∀w2,lP g M (fun x=>x= .g\/x= .row i) w w2->rG w2 G' M')(hl:i≠5\/∀q:Nat×ay,M.ps[c]? =some q->q.2.ps= []):aA (w1.setCell ⟨g,i,none⟩ (.slice a d c')) B g c G' M':=by
 have s:aY G' M' i= .slice a d c':=by unfold aY;rw[hra,hrc,v,dp,dp]
 have hV:∀j,j<8->j≠i->aY G' M' j=aY G M j:=fun j I m=>by unfold aY;rw[hra,hrc,hN j I m,cN _ _ m,cN _ _ m]
 have A:=h.lt (x:= .g) rfl;have r:∀k,(M.ra i).map (·.block)=some k->k≠g:=fun k b e=>by subst e;have:=h.dis .g (.row i) k rfl ⟨y,b⟩;cases this
 have z:(aY G M i).ownBlock=(M.ra i).map (·.block):=by unfold aY;rw[al]
 have p:(Value.slice a d c').ownBlock=a.map (·.block):=al _ _ _;rw[z]at hg ha;rw[p]at ha;have f:∀k,k≠g->(w1.setCell ⟨g,i,none⟩ (.slice a d c')).heap[k]? =w1.heap[k]? :=fun k b=>Below.heap_setCell _ _ _ k b
 have F:lP g M (fun x=>x= .g\/x= .row i) w (w1.setCell ⟨g,i,none⟩ (.slice a d c')):=⟨hg.os,hg.tape,hg.output,by simpa using hg.size,fun k b D=>by
  have J:k≠g:=fun e=>D .g e (.inl rfl)
  exact(f k J).trans (hg.block k b (fun e=>D (.row i) ⟨y,e.symm⟩ (.inr rfl)))⟩
 have l:w1.heap[g]? =some (.cells (ce G M) 67 (0,0)):=(hg.block g A (fun e=>r g e.symm rfl)).trans h.row;refine h.putRow y F ?_ ?_ hN hX (fun j m=>by rw[hra,cN _ _ m]) (fun j m=>by rw[hrc,cN _ _ m]) (fun k b=> ?_) hps hrs hts (C _ F) hl
 ·rw[heap_setCell_same w1 g i _ _ (.slice a d c') l,<-s,jJ y hV hrt]
 ·rw[s,v,hX'];refine aE H fun k b=>f k (fun e=> ?_)
  rw[p]at b;rcases ha with n | n
  ·exact r k (n.symm.trans b) e
  ·rw[n]at b;injection b with b;omega
 ·rw[hra,dp]at b;rcases ha with n | n
  ·exact .inl (n.symm.trans b)
  ·rw[n]at b;injection b with b;exact .inr (by omega)
theorem aA.contTo(h:aA w B g c G M){i:Nat}{a:World}(b:lP g M (fun x=>x= .g\/x= .row i) w a):rG a G M:=h.contStay b (fun j e=>by rcases e with e | e<;>cases e)
theorem aA.addMail(h:aA w B g c G M)(m:bE)(hm:cS w m.a m.c m.b){a:Option Addr}{c':Nat}(l:w1.ownsRow 0 99 3 (.slice a (M.ms.length+1) c') (M.ms.length+1) (M.ms.flatMap bE.cells++m.cells))(hg:w.grownBy w1 (aY G M 4).ownBlock)(ha:(Value.slice a (M.ms.length+1) c').ownBlock=(aY G M 4).ownBlock\/(Value.slice a (M.ms.length+1) c').ownBlock=some w.heap.size):
  aA (w1.setCell ⟨g,4,none⟩ (.slice a (M.ms.length+1) c')) B g c { G with bag:=G.bag++ [m.p] } { M with ra:=fB M.ra 4 a,rc:=fB M.rc 4 c',ms:=M.ms++ [m] }:=
 h.grow (i:=4) (by omega) l hg ha (by show(M.ms++ [m]).length=_;simp) (by show(M.ms++ [m]).flatMap bE.cells=_;simp) rfl rfl (fun j n f=>by unfold bR;split<;>first | rfl | exact absurd rfl f) (fun j n f=>by unfold cu;split<;>first | rfl | exact absurd rfl f) rfl rfl (fun _ _ h _=>h) rfl
  (fun o k=>by
   have d:=h.contTo k;refine⟨d.hq,d.hb,d.tq,d.tr,d.tb,by show(M.ms++ [m]).map bE.p=_;rw[List.map_append,h.ct.bq];rfl,fun y e=> ?_,d.sq,d.sb⟩;rcases List.mem_append.1 e with e | e
   ·exact d.bb y e
   ·rw[List.mem_singleton]at e;subst e;exact h.bytes k hm) (.inl (by omega))
theorem aA.addSeen(h:aA w B g c G M)(hl:∀q:Nat×ay,M.ps[c]? =some q->q.2.ps= [])(m:af)(hm:OwnBs 5 w m){a:Option Addr}{c':Nat}(k:w1.ownsRow 0 40 2 (.slice a (M.ss.length+1) c') (M.ss.length+1) (aK M.ss++m.cells))(hg:w.grownBy w1 (aY G M 5).ownBlock)(ha:(Value.slice a (M.ss.length+1) c').ownBlock=(aY G M 5).ownBlock\/(Value.slice a (M.ss.length+1) c').ownBlock=some w.heap.size):
  aA (w1.setCell ⟨g,5,none⟩ (.slice a (M.ss.length+1) c')) B g c { G with seen:=G.seen++ [m.it] } { M with ra:=fB M.ra 5 a,rc:=fB M.rc 5 c',ss:=M.ss++ [m] }:=
 h.grow (i:=5) (by omega) k hg ha (by show(M.ss++ [m]).length=_;simp) (by show aK (M.ss++ [m])=_;rw[dO];rfl) rfl rfl (fun j l e=>by unfold bR;split<;>first | rfl | exact absurd rfl e) (fun j l e=>by unfold cu;split<;>first | rfl | exact absurd rfl e) rfl rfl (fun _ _ h _=>h) rfl
  (fun n f=>by
   have b:=h.contTo f;refine⟨b.hq,b.hb,b.tq,b.tr,b.tb,b.bq,b.bb,by show(M.ss++ [m]).map af.it=_;rw[List.map_append,h.ct.sq];rfl,fun y d=> ?_⟩;rcases List.mem_append.1 d with d | d
   ·exact b.sb y d
   ·rw[List.mem_singleton]at d;subst d;exact h.item f hm) (.inr hl)
theorem aA.addWhen(h:aA w B g c G M)(x:Int){a:Option Addr}{c':Nat}(e:w1.ownsRow 0 3 1 (.slice a (G.wh.length+1) c') (G.wh.length+1) (G.wh.map iz++ [iz x]))(hg:w.grownBy w1 (aY G M 6).ownBlock)(ha:(Value.slice a (G.wh.length+1) c').ownBlock=(aY G M 6).ownBlock\/(Value.slice a (G.wh.length+1) c').ownBlock=some w.heap.size):
  aA (w1.setCell ⟨g,6,none⟩ (.slice a (G.wh.length+1) c')) B g c { G with wh:=G.wh++ [x] } { M with ra:=fB M.ra 6 a,rc:=fB M.rc 6 c' }:=
 h.grow (i:=6) (by omega) e hg ha (by show(G.wh++ [x]).length=_;simp) (by show(G.wh++ [x]).map iz=_;simp) rfl rfl (fun j k d=>by unfold bR;split<;>first | rfl | exact absurd rfl d) (fun j k d=>by unfold cu;split<;>first | rfl | exact absurd rfl d) rfl rfl (fun _ _ h _=>h) rfl
  (fun l f=>by have b:=h.contTo f;exact⟨b.hq,b.hb,b.tq,b.tr,b.tb,b.bq,b.bb,b.sq,b.sb⟩) (.inl (by omega))
theorem aA.addLed(h:aA w B g c G M)(x:Int×Int){a:Option Addr}{c':Nat}(d:w1.ownsRow 0 80 2 (.slice a (G.led.length+1) c') (G.led.length+1) (G.led.flatMap eU++eU x))(hg:w.grownBy w1 (aY G M 7).ownBlock)(ha:(Value.slice a (G.led.length+1) c').ownBlock=(aY G M 7).ownBlock\/(Value.slice a (G.led.length+1) c').ownBlock=some w.heap.size):
  aA (w1.setCell ⟨g,7,none⟩ (.slice a (G.led.length+1) c')) B g c { G with led:=G.led++ [x] } { M with ra:=fB M.ra 7 a,rc:=fB M.rc 7 c' }:=
 h.grow (i:=7) (by omega) d hg ha (by show(G.led++ [x]).length=_;simp) (by show(G.led++ [x]).flatMap eU=_;simp) rfl rfl (fun j l f=>by
   have e:j=0\/j=1\/j=2\/j=3\/j=4\/j=5\/j=6:=by omega
   rcases e with rfl | rfl | rfl | rfl | rfl | rfl | rfl<;>rfl) (fun j l f=>by
   have e:j=0\/j=1\/j=2\/j=3\/j=4\/j=5\/j=6:=by omega
   rcases e with rfl | rfl | rfl | rfl | rfl | rfl | rfl<;>rfl) rfl rfl (fun _ _ h _=>h) rfl
  (fun m k=>by have b:=h.contTo k;exact⟨b.hq,b.hb,b.tq,b.tr,b.tb,b.bq,b.bb,b.sq,b.sb⟩) (.inl (by omega))
end
section
variable {w w' w1 : World} {B g c : Nat} {G G' : ac} {M M' : bG} {S : GN -> Prop}
theorem aA.setNotes(h:aA w B g c G M){i:Nat}(J:i<M.ts.length){b cap:Nat}(L:aY G M 2= .slice (some ⟨b,0,none⟩) M.ts.length cap)(t:d9)(hrow:w.ownsRow 0 27 1 t.cell t.ns.length (t.ns.map aV.cell))(hb:∀m∈t.ns,cS w m.a m.c m.b)(hfree:∀k,t.a.map (·.block)=some k->B<=k/\∀y,¬M.own g y k):
  aA (w.setCell ⟨b,i,none⟩ t.cell) B g c { G with nt:=G.nt.set i t.p } { M with ts:=M.ts.set i t }:=by
 obtain⟨U, -,r,N⟩:=h.stored (i:=2) (by omega) L i t.cell;have O:∀j,j≠2->cu { G with nt:=G.nt.set i t.p } { M with ts:=M.ts.set i t } j=cu G M j:=fun j D=>by unfold cu;split<;>first | rfl | exact absurd rfl D
 have hN:∀j,bR { G with nt:=G.nt.set i t.p } { M with ts:=M.ts.set i t } j=bR G M j:=fun j=>by unfold bR;split<;>first | rfl | simp
 have hV:∀j,aY { G with nt:=G.nt.set i t.p } { M with ts:=M.ts.set i t } j=aY G M j:=fun j=>by unfold aY;rw[hN]
 obtain⟨v,z⟩:=h.apart (M':={ M with ts:=M.ts.set i t }) (x:= .nts i) (fun y k n f=>by
  cases y with
  | g=>exact f
  | row j=>exact f
  | raft j=>exact f
  | nts j=>
   obtain⟨o,l,s⟩:∃o:d9,(M.ts.set i t)[j]? =some o/\o.a.map (·.block)=some k:=f;rw[aZ J,if_neg (fun e=>n (by rw[e]))]at l;exact⟨o,l,s⟩) (fun k f=>by
  obtain⟨o,l,s⟩:∃o:d9,(M.ts.set i t)[i]? =some o/\o.a.map (·.block)=some k:=f;rw[aZ J,if_pos rfl]at l;injection l with l;subst l;exact .inr (hfree k s))
 have d:=h.contStay r (fun j e=>by cases e);have C:(w.setCell ⟨b,i,none⟩ t.cell).ownsRow 0 27 1 t.cell t.ns.length (t.ns.map aV.cell):=aE hrow fun k f=>by rw[d9.cell,al]at f;obtain⟨cur,F⟩:=au hrow f;exact r.block k (Array.getElem?_eq_some_iff.1 F).1 (fun x A=>absurd A ((hfree k f).2 x))
 refine⟨?_,fun j D=> ?_,h.rl,fun j W q l s=>h.raftStay r l s (fun e=>by cases e) (h.letters r l s (fun x k V fr P A F=> ?_)),h.eo,⟨d.hq,d.hb,?_,fun y n=> ?_,fun y n m I=> ?_,d.bq,d.bb,d.sq,d.sb⟩,v,z,by simpa using h.bs⟩
 ·rw[show ce { G with nt:=G.nt.set i t.p } { M with ts:=M.ts.set i t }=ce G M by unfold ce;simp only[hV]];exact(h.stay r (x:= .g) rfl (fun e=>by cases e)).trans h.row
 ·rw[hV,hN];by_cases e:j=2
  ·subst e;rw[show cu { G with nt:=G.nt.set i t.p } { M with ts:=M.ts.set i t } 2=(cu G M 2).set i t.cell by show(M.ts.set i t).map d9.cell=(M.ts.map d9.cell).set i t.cell;rw[List.map_set]];exact U
  ·rw[O j e];exact h.rowStay r D (fun H=>by injection H with H;exact e H)
 ·subst P;obtain⟨T,S⟩:2<8/\(M.ra 2).map (·.block)=some k:=A;obtain⟨cur,R⟩:=au (h.rows 2 T) S;exact absurd (aB R F) (by decide)
 ·show(M.ts.set i t).map d9.p=G.nt.set i t.p;rw[List.map_set,h.ct.tq]
 ·rcases List.mem_or_eq_of_mem_set n with n | rfl
  ·exact d.tr y n
  ·exact C
 ·rcases List.mem_or_eq_of_mem_set n with n | rfl
  ·exact d.tb y n m I
  ·exact h.bytes r (hb m I)
theorem aA.setPtr(h:aA w B g c G M){i:Nat}(r:i<M.ps.length){b cap:Nat}(A:aY G M 0= .slice (some ⟨b,0,none⟩) M.ps.length cap){R':aa}{p':Nat}{f:ay}(I:ao w p' R' f)(hl:f.ps= [])(hfree:∀k,f.own p' k->B<=k/\∀y,¬M.own g y k):
  aA (w.setCell ⟨b,i,none⟩ (.pointer (some ⟨p',0,none⟩))) B g c { G with rs:=G.rs.set i R' } { M with ps:=M.ps.set i (p',f) }:=by
 obtain⟨U, -,s,N⟩:=h.stored (i:=0) (by omega) A i (.pointer (some ⟨p',0,none⟩));have C:i<G.rs.length:=by rw[<-h.rl];exact r
 have O:∀j,j≠0->cu { G with rs:=G.rs.set i R' } { M with ps:=M.ps.set i (p',f) } j=cu G M j:=fun j o=>by unfold cu;split<;>first | rfl | exact absurd rfl o
 have hN:∀j,bR { G with rs:=G.rs.set i R' } { M with ps:=M.ps.set i (p',f) } j=bR G M j:=fun j=>by unfold bR;split<;>first | rfl | simp
 have hV:∀j,aY { G with rs:=G.rs.set i R' } { M with ps:=M.ps.set i (p',f) } j=aY G M j:=fun j=>by unfold aY;rw[hN]
 have v:M.own g (.row 0) b:=⟨by omega,by unfold aY at A;injection A with e1 _ _;rw[e1];rfl⟩
 obtain⟨V,D⟩:=au (h.rows 0 (by omega)) v.2;obtain⟨p,t⟩:=h.apart (M':={ M with ps:=M.ps.set i (p',f) }) (x:= .raft i) (fun y k F n=>by
  cases y with
  | g=>exact n
  | row j=>exact n
  | nts j=>exact n
  | raft j=>
   obtain⟨q,a,l⟩:∃q:Nat×ay,(M.ps.set i (p',f))[j]? =some q/\q.2.own q.1 k:=n;rw[aZ r,if_neg (fun e=>F (by rw[e]))]at a;exact⟨q,a,l⟩) (fun k n=>by
  obtain⟨q,a,l⟩:∃q:Nat×ay,(M.ps.set i (p',f))[i]? =some q/\q.2.own q.1 k:=n;rw[aZ r,if_pos rfl]at a;injection a with a;subst a;exact .inr (hfree k l))
 have d:=h.contStay s (fun j e=>by cases e);refine⟨?_,fun j o=> ?_,by simp[h.rl],fun j W q a l=> ?_,fun j q o a=> ?_,⟨d.hq,d.hb,d.tq,d.tr,d.tb,d.bq,d.bb,d.sq,d.sb⟩,p,t,by simpa using h.bs⟩
 ·rw[show ce { G with rs:=G.rs.set i R' } { M with ps:=M.ps.set i (p',f) }=ce G M by unfold ce;simp only[hV]];exact(h.stay s (x:= .g) rfl (fun e=>by cases e)).trans h.row
 ·rw[hV,hN];by_cases e:j=0
  ·subst e;rw[show cu { G with rs:=G.rs.set i R' } { M with ps:=M.ps.set i (p',f) } 0=(cu G M 0).set i (.pointer (some ⟨p',0,none⟩)) by show(M.ps.set i (p',f)).map i8=(M.ps.map i8).set i (.pointer (some ⟨p',0,none⟩));rw[List.map_set];rfl];exact U
  ·rw[O j e];exact h.rowStay s o (fun z=>by injection z with z;exact e z)
 ·have a:(G.rs.set i R')[j]? =some W:=a;have l:(M.ps.set i (p',f))[j]? =some q:=l;rw[aZ C]at a;rw[aZ r]at l;by_cases e:j=i
  ·rw[if_pos e]at a l;injection a with a;injection l with l;subst a l;refine I.far (g:=b) (fun J=>(hfree b J).2 _ v) D (by decide) (by show ∀m∈f.ps,_;rw[hl];simp) (fun k n=>Below.heap_setCell _ _ _ k n) (by simp)
  ·rw[if_neg e]at a l;refine h.raftStay s a l (fun z=>by cases z) (h.letters s a l (fun x k X fr P H L=> ?_));subst P;obtain⟨T,S⟩:0<8/\(M.ra 0).map (·.block)=some k:=H;obtain⟨cur,R⟩:=au (h.rows 0 T) S;exact absurd (aB R L) (by decide)
 ·have a:(M.ps.set i (p',f))[j]? =some q:=a;rw[aZ r]at a;by_cases e:j=i
  ·rw[if_pos e]at a;injection a with a;subst a;exact hl
  ·rw[if_neg e]at a;exact h.eo j q o a
def ac.none:ac:=⟨[],[],[],[],[],[],[],[],true⟩
def bG.none:bG:=⟨fun _=>Option.none,fun _=>0,[],[],[],[],[]⟩
theorem yf(w:World)(c:Nat):aA (w.alloc (.cells (ce ac.none bG.none) 67)) w.heap.size w.heap.size c ac.none bG.none:=by
 have f:∀x k,bG.none.own w.heap.size x k->x= .g/\k=w.heap.size:=fun x k d=>by
  cases x with
  | g=>exact⟨rfl,d⟩
  | row j=>obtain⟨_,l⟩:j<8/\(Option.none:Option Addr).map (·.block)=some k:=d;cases l
  | raft j=>obtain⟨q,b,_⟩:∃q:Nat×ay,([]:List (Nat×ay))[j]? =some q/\q.2.own q.1 k:=d;simp at b
  | nts j=>obtain⟨t,b,_⟩:∃t:d9,([]:List d9)[j]? =some t/\t.a.map (·.block)=some k:=d;simp at b
 have h:∀i,i<8->bR ac.none bG.none i=0/\cu ac.none bG.none i= []/\aY ac.none bG.none i= .slice Option.none 0 0:=fun i m=>by
  have e:i=0\/i=1\/i=2\/i=3\/i=4\/i=5\/i=6\/i=7:=by omega
  rcases e with rfl | rfl | rfl | rfl | rfl | rfl | rfl | rfl<;>exact⟨rfl,rfl,rfl⟩
 refine⟨heap_alloc_new w _,fun i m=> ?_,rfl,fun i R q b _=>by simp[ac.none]at b,fun i q _ b=>by simp[bG.none]at b,⟨rfl,by simp[bG.none],rfl,by simp[bG.none],by simp[bG.none],rfl,by simp[bG.none],rfl,by simp[bG.none]⟩,fun x k d=>by rw[(f x k d).2];exact Nat.le_refl _,fun x y k d n=>by rw[(f x k d).1,(f y k n).1],by simp⟩;obtain⟨b,l,o⟩:=h i m;rw[b,l,o];exact⟨by simp, .inl ⟨rfl,rfl⟩⟩
end
theorem ao.grown2{w w':World}{p:Nat}{R:aa}{M:ay}(h:ao w p R M){o:Option Nat}(B:w.grownBy w' o)(hn:∀k,o=some k->¬M.own p k)(hi:∀m∈M.ps,∀k,o=some k->m.ia.map (·.block)≠some k)(hU:∀k cs fr,o=some k->w.heap[k]? =some (.cells cs 5 fr)->False):ao w' p R M:=by
 have y:=B.size;have r:∀ {k:Nat} {x:Obj},w.heap[k]? =some x->k<w.heap.size:=fun G=>(Array.getElem?_eq_some_iff.1 G).1
 have A:∀k,k<w.heap.size->o≠some k->w'.heap[k]? =w.heap[k]? :=fun k i F=>B.block k i (fun e=>F e.symm)
 have v:∀k cs fr,k<w.heap.size->w.heap[k]? =some (.cells cs 5 fr)->w'.heap[k]? =w.heap[k]? :=fun k cs fr i z=>A k i (fun e=>hU k cs fr e z)
 have d:∀k,k<w.heap.size->M.own p k->w'.heap[k]? =w.heap[k]? :=fun k i f=>A k i (fun e=>hn k e f)
 have j:∀ {e base l n:Nat} {a:Option Addr} {c:Nat} {C:List Value} {g:Nat},w.ownsRow base e l (.slice a n c) n C->(Value.slice a n c).ownBlock=some g->g<w.heap.size/\a.map (·.block)=some g:=fun D b=>by rw[al]at b;obtain⟨cur,z⟩:=au D b;exact⟨r z,b⟩
 refine⟨h.sv,(d _ h.lt (.inl rfl)).trans h.row,⟨(d _ (r h.ln.row) (.inr (.inl rfl))).trans h.ln.row,aE h.ln.own fun g b=> ?_,h.ln.its,fun m f=>OwnBs.grown (T:=5) (h.ln.bs m f) v y,Nat.zero_le _⟩,OwnBs.grown (T:=5) h.st v y,aE h.nw fun g b=> ?_,fun m f=>OwnBs.grown (T:=5) (h.nb m f) v y,h.nq,aE h.ou fun g b=> ?_,h.oq,⟨h.po.q,h.po.c,fun m f=>(h.po.m m f).kept (fun k i=>A k ((h.po.m m f).block i) (fun e=>hi m f k e i)) v y,h.po.n⟩⟩
 ·obtain⟨t,s⟩:=j h.ln.own b;exact d g t (.inr (.inr (.inl s)))
 ·obtain⟨t,s⟩:=j h.nw b;exact d g t (.inr (.inr (.inr (.inl s))))
 ·obtain⟨t,s⟩:=j h.ou b;exact d g t (.inr (.inr (.inr (.inr s))))
section
variable {w w' w1 : World} {B g c : Nat} {G G' : ac} {M M' : bG} {S : GN -> Prop}
theorem aA.apart2(h:aA w B g c G M){T:GN->Prop}(h1:∀y k,¬T y->M'.own g y k->M.own g y k)(h2:∀x k,T x->M'.own g x k->M.own g x k\/(B<=k/\∀y,¬M.own g y k))(h3:∀x y k,T x->T y->M'.own g x k->M'.own g y k->x=y):(∀y k,M'.own g y k->B<=k)/\∀y z k,M'.own g y k->M'.own g z k->y=z:=by
 have d:∀y k,M'.own g y k->M.own g y k\/(T y/\B<=k/\∀z,¬M.own g z k):=fun y k f=>by
  by_cases e:T y
  ·rcases h2 y k e f with a | a
   ·exact .inl a
   ·exact .inr ⟨e,a⟩
  ·exact .inl (h1 y k e f)
 refine⟨fun y k f=> ?_,fun y z k j i=> ?_⟩
 ·rcases d y k f with a | ⟨-,a, -⟩
  ·exact h.inn y k a
  ·exact a
 ·rcases d y k j with a | ⟨m, -,a⟩<;>rcases d z k i with b | ⟨l, -,b⟩
  ·exact h.dis y z k a b
  ·exact absurd a (b y)
  ·exact absurd b (a z)
  ·exact h3 y z k m l j i
theorem eg{α:Type}{l:List α}{x:α}(j:Nat):(l++ [x])[j]? =if j=l.length then some x else l[j]? :=by
 by_cases e:j=l.length
 ·subst e;simp
 ·rw[if_neg e];by_cases h:j<l.length
  ·rw[List.getElem?_append_left h]
  ·rw[List.getElem?_eq_none (by simp;omega),List.getElem?_eq_none (by omega)]
theorem aA.addRaft(h:aA w B g c G M){R':aa}{p':Nat}{J:ay}(hr:ao w p' R' J)(hl:J.ps= [])(hfree:∀k,J.own p' k->B<=k/\∀y,¬M.own g y k){a:Option Addr}{c':Nat}(ho:w1.ownsRow 0 25 1 (.slice a (M.ps.length+1) c') (M.ps.length+1) (M.ps.map i8++ [.pointer (some ⟨p',0,none⟩)]))(hg:w.grownBy w1 (aY G M 0).ownBlock)(ha:(Value.slice a (M.ps.length+1) c').ownBlock=(aY G M 0).ownBlock\/(Value.slice a (M.ps.length+1) c').ownBlock=some w.heap.size):
  aA (w1.setCell ⟨g,0,none⟩ (.slice a (M.ps.length+1) c')) B g c { G with rs:=G.rs++ [R'] } { M with ra:=fB M.ra 0 a,rc:=fB M.rc 0 c',ps:=M.ps++ [(p',J)] }:=by
 obtain⟨i,p⟩:∃i:bG,i={ M with ra:=fB M.ra 0 a,rc:=fB M.rc 0 c',ps:=M.ps++ [(p',J)] }:=⟨_,rfl⟩
 obtain⟨L,s⟩:∃L:ac,L={ G with rs:=G.rs++ [R'] }:=⟨_,rfl⟩
 rw[<-p,<-s];have o:i.ps=M.ps++ [(p',J)]:=by rw[p]
 have F:i.ra=fB M.ra 0 a:=by rw[p]
 have X:i.rc=fB M.rc 0 c':=by rw[p]
 have W:L.rs=G.rs++ [R']:=by rw[s]
 have hN:∀j,j<8->j≠0->bR L i j=bR G M j:=fun j _ r=>by rw[p,s];unfold bR;split<;>first | rfl | exact absurd rfl r
 have hX:∀j,j<8->j≠0->cu L i j=cu G M j:=fun j _ r=>by rw[p,s];unfold cu;split<;>first | rfl | exact absurd rfl r
 have V:aY L i 0= .slice a (M.ps.length+1) c':=by unfold aY;rw[F,X,dp,dp];show Value.slice a i.ps.length c'=_;rw[o];simp
 have hV:∀j,j<8->j≠0->aY L i j=aY G M j:=fun j h8 r=>by unfold aY;rw[F,X,hN j h8 r,cN _ _ r,cN _ _ r]
 have hgl:=h.lt (x:= .g) rfl;have R:∀k,(M.ra 0).map (·.block)=some k->k≠g:=fun k b e=>by subst e;have:=h.dis .g (.row 0) k rfl ⟨by omega,b⟩;cases this
 have hob:(aY G M 0).ownBlock=(M.ra 0).map (·.block):=by unfold aY;rw[al]
 have O:(Value.slice a (M.ps.length+1) c').ownBlock=a.map (·.block):=al _ _ _;rw[hob]at hg ha;rw[O]at ha;have C:∀k,k≠g->(w1.setCell ⟨g,0,none⟩ (.slice a (M.ps.length+1) c')).heap[k]? =w1.heap[k]? :=fun k b=>Below.heap_setCell _ _ _ k b
 have S:lP g M (fun x=>x= .g\/x= .row 0) w (w1.setCell ⟨g,0,none⟩ (.slice a (M.ps.length+1) c')):=⟨hg.os,hg.tape,hg.output,by simpa using hg.size,fun k b z=>by
  have f:k≠g:=fun e=>z .g e (.inl rfl)
  exact(C k f).trans (hg.block k b (fun e=>z (.row 0) ⟨by omega,e.symm⟩ (.inr rfl)))⟩
 have A:w1.heap[g]? =some (.cells (ce G M) 67 (0,0)):=(hg.block g hgl (fun e=>R g e.symm rfl)).trans h.row;have D:∀k,a.map (·.block)=some k->(M.ra 0).map (·.block)=some k\/w.heap.size<=k:=fun k b=>by
  rcases ha with n | n
  ·exact .inl (n.symm.trans b)
  ·rw[n]at b;injection b with b;exact .inr (by omega)
 have hpl:∀k,J.own p' k->k<w.heap.size:=fun k b=>by
  rcases Nat.lt_or_ge k w.heap.size with n | n
  ·exact n
  ·exact absurd b (hr.notNew n)
 obtain⟨P,U⟩:=h.apart2 (M':=i) (T:=fun y=>y= .row 0\/y= .raft M.ps.length) (fun y k Y b=>by
  cases y with
  | g=>exact b
  | row j=>obtain⟨f,d⟩:j<8/\(i.ra j).map (·.block)=some k:=b;rw[F,cN _ _ (fun e=>Y (.inl (by rw[e])))]at d;exact⟨f,d⟩
  | nts j=>obtain⟨t,f,d⟩:∃t:d9,i.ts[j]? =some t/\t.a.map (·.block)=some k:=b;rw[p]at f;exact⟨t,f,d⟩
  | raft j=>
   obtain⟨q,f,d⟩:∃q:Nat×ay,i.ps[j]? =some q/\q.2.own q.1 k:=b;rw[o,eg,if_neg (fun e=>Y (.inr (by rw[e])))]at f;exact⟨q,f,d⟩) (fun x k z b=>by
  rcases z with rfl | rfl
  ·obtain⟨f,d⟩:0<8/\(i.ra 0).map (·.block)=some k:=b;rw[F,dp]at d;rcases D k d with n | n
   ·exact .inl ⟨f,n⟩
   ·exact .inr (h.free n)
  ·obtain⟨q,f,d⟩:∃q:Nat×ay,i.ps[M.ps.length]? =some q/\q.2.own q.1 k:=b;rw[o,eg,if_pos rfl]at f;injection f with f;subst f;exact .inr (hfree k d)) (fun x y k z Y b I=>by
  have H:∀k,i.own g (.row 0) k->i.own g (.raft M.ps.length) k->False:=fun k b I=>by
   obtain⟨f,d⟩:0<8/\(i.ra 0).map (·.block)=some k:=b;rw[F,dp]at d;obtain⟨q,h3,h4⟩:∃q:Nat×ay,i.ps[M.ps.length]? =some q/\q.2.own q.1 k:=I;rw[o,eg,if_pos rfl]at h3;injection h3 with h3;subst h3;rcases D k d with n | n
   ·exact(hfree k h4).2 (.row 0) ⟨f,n⟩
   ·have:=hpl k h4;omega
  rcases z with rfl | rfl<;>rcases Y with rfl | rfl
  ·rfl
  ·exact(H k b I).elim
  ·exact(H k I b).elim
  ·rfl)
 have l:=h.contTo S;refine⟨?_,fun j r=> ?_,by rw[o,W];simp[h.rl],fun j Rj q f d=> ?_,fun j q r d=> ?_,by rw[p,s];exact⟨l.hq,l.hb,l.tq,l.tr,l.tb,l.bq,l.bb,l.sq,l.sb⟩,P,U,Nat.le_trans h.bs S.size⟩
 ·rw[heap_setCell_same w1 g 0 _ _ (.slice a (M.ps.length+1) c') A,<-V,jJ (by omega) hV (by rw[s])]
 ·by_cases e:j=0
  ·subst e;rw[V,show bR L i 0=M.ps.length+1 by show i.ps.length=_;rw[o];simp,show cu L i 0=M.ps.map i8++ [.pointer (some ⟨p',0,none⟩)] by show i.ps.map i8=_;rw[o,List.map_append];rfl];refine aE ho fun k b=>C k (fun e=> ?_)
   rw[O]at b;rcases D k b with n | n
   ·exact R k n e
   ·omega
  ·rw[hV j r e,hN j r e,hX j r e];exact h.rowStay S r (fun v=>by rcases v with v | v<;>cases v;exact e rfl)
 ·rw[W,eg]at f;rw[o,eg]at d;by_cases e:j=M.ps.length
  ·rw[if_pos (by rw[<-h.rl];exact e)]at f;rw[if_pos e]at d;injection f with f;injection d with d;subst f d;have hr1:ao w1 p' R' J:=hr.grown2 hg (fun k b N=>(hfree k N).2 (.row 0) ⟨by omega,b⟩) (by rw[hl];simp) (fun k cs fr b Z=>by
    obtain⟨cur,n⟩:=au (h.rows 0 (by omega)) b;exact absurd (aB n Z) (by decide))
   exact hr1.far (g:=g) (fun N=>(hfree g N).2 .g rfl) A (by decide) (by show ∀m∈J.ps,_;rw[hl];simp) C (by simp)
  ·rw[if_neg (by rw[<-h.rl];exact e)]at f;rw[if_neg e]at d;refine h.raftStay S f d (fun v=>by rcases v with v | v<;>cases v) (h.letters S f d (fun x k cs fr hS z Z=> ?_));rcases hS with v | v
   ·subst v;have z:k=g:=z;subst z;exact absurd (aB h.row Z) (by decide)
   ·subst v;obtain⟨h6,h7⟩:0<8/\(M.ra 0).map (·.block)=some k:=z;obtain⟨cur,h8⟩:=au (h.rows 0 h6) h7;exact absurd (aB h8 Z) (by decide)
 ·rw[o,eg]at d;by_cases e:j=M.ps.length
  ·rw[if_pos e]at d;injection d with d;subst d;exact hl
  ·rw[if_neg e]at d;exact h.eo j q r d
theorem aA.addHead(h:aA w B g c G M)(m:aV)(hm:cS w m.a m.c m.b){a:Option Addr}{c':Nat}(l:w1.ownsRow 0 27 1 (.slice a (M.hs.length+1) c') (M.hs.length+1) (M.hs.map aV.cell++ [m.cell]))(hg:w.grownBy w1 (aY G M 1).ownBlock)(ha:(Value.slice a (M.hs.length+1) c').ownBlock=(aY G M 1).ownBlock\/(Value.slice a (M.hs.length+1) c').ownBlock=some w.heap.size):
  aA (w1.setCell ⟨g,1,none⟩ (.slice a (M.hs.length+1) c')) B g c { G with hd:=G.hd++ [m.b] } { M with ra:=fB M.ra 1 a,rc:=fB M.rc 1 c',hs:=M.hs++ [m] }:=
 h.grow (i:=1) (by omega) l hg ha (by show(M.hs++ [m]).length=_;simp) (by show(M.hs++ [m]).map aV.cell=_;simp) rfl rfl (fun j n f=>by unfold bR;split<;>first | rfl | exact absurd rfl f) (fun j n f=>by unfold cu;split<;>first | rfl | exact absurd rfl f) rfl rfl (fun _ _ h _=>h) rfl
  (fun o k=>by
   have d:=h.contTo k;refine⟨by show(M.hs++ [m]).map aV.b=_;rw[List.map_append,h.ct.hq];rfl,fun y e=> ?_,d.tq,d.tr,d.tb,d.bq,d.bb,d.sq,d.sb⟩;rcases List.mem_append.1 e with e | e
   ·exact d.hb y e
   ·rw[List.mem_singleton]at e;subst e;exact h.bytes k hm) (.inl (by omega))
theorem aA.addNotes(h:aA w B g c G M){a:Option Addr}{c':Nat}(n:w1.ownsRow 0 29 1 (.slice a (M.ts.length+1) c') (M.ts.length+1) (M.ts.map d9.cell++ [.slice none 0 0]))(hg:w.grownBy w1 (aY G M 2).ownBlock)(ha:(Value.slice a (M.ts.length+1) c').ownBlock=(aY G M 2).ownBlock\/(Value.slice a (M.ts.length+1) c').ownBlock=some w.heap.size):
  aA (w1.setCell ⟨g,2,none⟩ (.slice a (M.ts.length+1) c')) B g c { G with nt:=G.nt++ [[]] } { M with ra:=fB M.ra 2 a,rc:=fB M.rc 2 c',ts:=M.ts++ [⟨none,0,[]⟩] }:=
 h.grow (i:=2) (by omega) n hg ha (by show(M.ts++ [_]).length=_;simp) (by show(M.ts++ [_]).map d9.cell=_;simp[d9.cell]) rfl rfl (fun j q k=>by unfold bR;split<;>first | rfl | exact absurd rfl k) (fun j q k=>by unfold cu;split<;>first | rfl | exact absurd rfl k) rfl rfl (fun j t f r=>by
   have f:(M.ts++ [⟨none,0,[]⟩])[j]? =some t:=f;rw[eg]at f;by_cases e:j=M.ts.length
   ·rw[if_pos e]at f;injection f with f;subst f;exact absurd rfl r
   ·rw[if_neg e]at f;exact f) rfl
  (fun s o=>by
   have b:=h.contTo o;refine⟨b.hq,b.hb,by show(M.ts++ [_]).map d9.p=_;rw[List.map_append,h.ct.tq];rfl,fun y d=> ?_,fun y d m l=> ?_,b.bq,b.bb,b.sq,b.sb⟩
   ·rcases List.mem_append.1 d with d | d
    ·exact b.tr y d
    ·rw[List.mem_singleton]at d;subst d;exact⟨rfl, .inl ⟨rfl,rfl⟩⟩
   ·rcases List.mem_append.1 d with d | d
    ·exact b.tb y d m l
    ·rw[List.mem_singleton]at d;subst d;cases l) (.inl (by omega))
theorem aA.addAt(h:aA w B g c G M)(x:Int){a:Option Addr}{c':Nat}(e:w1.ownsRow 0 3 1 (.slice a (G.ats.length+1) c') (G.ats.length+1) (G.ats.map iz++ [iz x]))(hg:w.grownBy w1 (aY G M 3).ownBlock)(ha:(Value.slice a (G.ats.length+1) c').ownBlock=(aY G M 3).ownBlock\/(Value.slice a (G.ats.length+1) c').ownBlock=some w.heap.size):
  aA (w1.setCell ⟨g,3,none⟩ (.slice a (G.ats.length+1) c')) B g c { G with ats:=G.ats++ [x] } { M with ra:=fB M.ra 3 a,rc:=fB M.rc 3 c' }:=
 h.grow (i:=3) (by omega) e hg ha (by show(G.ats++ [x]).length=_;simp) (by show(G.ats++ [x]).map iz=_;simp) rfl rfl (fun j k d=>by unfold bR;split<;>first | rfl | exact absurd rfl d) (fun j k d=>by unfold cu;split<;>first | rfl | exact absurd rfl d) rfl rfl (fun _ _ h _=>h) rfl
  (fun l f=>by have b:=h.contTo f;exact⟨b.hq,b.hb,b.tq,b.tr,b.tb,b.bq,b.bb,b.sq,b.sb⟩) (.inl (by omega))
end
end Go.Proofs.YtogcnfhmcpkdcaaGreat
