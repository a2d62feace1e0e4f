/-
The builtin append onto a row of the call's own, the source any slice that reads as cells (nil, empty or not). No program in sight.
-/
import Derived.Test.YtogcnfhmcpkdcaaGreatNumM
import Derived.Test.YtogcnfhmcpkdcaaGreatLineLaw
import Derived.Test.YtogcnfhmcpkdcaaGreatEyeM
import Derived.Maps.AppendAt
import Derived.Laws.OwnMore
import Derived.RegionTactic
import Derived.Laws.AppendOwn
namespace Go.Proofs.YtogcnfhmcpkdcaaGreat
open Go.RowKit
set_option linter.unusedVariables false
theorem aM.sl{w:World}{B:Nat}{a:Option Addr}{n c:Nat}{l:List UInt8}(h:aM w B a n c l):SlAt w B 1 a n c (l.map bv):=by
 have f:=h.hlen;refine⟨by simpa using f,h.hle,h.hmax,h.hnil,fun g=> ?_⟩;have j:0<n:=by simpa[f] using g
 obtain⟨b,o,e,p,m⟩:=h.hat j;refine⟨b,o,e,p,fun i k=> ?_⟩;have d:i<l.length:=by simpa using k
 rw[m i (by omega)];simp[bv,List.getD,List.getElem?_eq_getElem d]
theorem SlAt.cells{w:World}{B d:Nat}{a:Addr}{n c:Nat}{xs:List Value}(h:SlAt w B d (some a) n c xs):∀j u,xs[j]? =some u->w.cell? (a.add j)=some u:=by intro j u g;have f:j<xs.length:=(List.getElem?_eq_some_iff.1 g).1;obtain⟨b,o,e,_,i⟩:=h.hat (by omega);simp at e;subst e;rw[Addr.add_lit,i j f,g]
section
variable {P : Program} (w : World)
theorem o5(base:Nat)(t ty e:TypeId)(i:TypeInfo)(z:Value)(size bytes:Nat)(ht:P.underlying t=some (.slice e))(hi:P.info? e=some i)(hz:i.zero=some z)
 (b:i.size=size)(hby:i.bytes=bytes)(hzs:z.cells.size=size)(hsz:0<size)
 (v:Value)(n:Nat)(xs:List Value)(hown:w.ownsRow base e size v n xs)
 (B:Nat)(a:Option Addr)(m c:Nat)(news:List Value)(hs:SlAt w B size a m c news)(h1:∀u∈news,u.oneCell'=true)
 (d:n+m<=maxLen)(hbytes:(n+m)*bytes<=140737488355328)(hbase:base<=w.heap.size):
  ∃v' w',(Builtin.append_ #[t,t] ty #[v, .slice a m c]).run P w= .ok v' w'/\w'.ownsRow base e size v' (n+m) (xs++news)/\w.grownBy w' v.ownBlock/\(v'.ownBlock=v.ownBlock\/v'.ownBlock=some w.heap.size):=by
 cases a with
 | none=>
  have j:=hs.hnil rfl;subst j;have h:m=0:=by have:=hs.hle;omega
  subst h;have g:news= []:=List.eq_nil_of_length_eq_zero (by have:=hs.hlen;omega);subst g;exact⟨v,w,run_append_owned_none (P:=P) (w:=w) base t ty e i size ht hi v n xs hown,by simpa using hown,World.grownBy.refl w _, .inl rfl⟩
 | some ad=>obtain⟨v',w',f,o,l,_,k⟩:=run_append_own_at (P:=P) w base t ty e i z size bytes ht hi hz b hby hzs hsz v n xs hown ad m c news hs.hlen hs.cells h1 d hbytes hbase;exact⟨v',w',f,o,l,k⟩
theorem aS{o:Oper}{b:Act}{K:Act->World->Prop}{Q:Exit->Act->World->Prop}(s x:Operand)(t:TypeId)
 (k:o.op= .call { callee:= .builtin .append,args:=#[s,x],argTypes:=#[t,t] })
 (base:Nat)(e:TypeId)(i:TypeInfo)(z:Value)(size bytes:Nat)(ht:P.underlying t=some (.slice e))(hi:P.info? e=some i)(hz:i.zero=some z)
 (d:i.size=size)(hby:i.bytes=bytes)(hzs:z.cells.size=size)(hsz:0<size)
 (v:Value)(n:Nat)(xs:List Value)(hv:b.eval s=v)(hown:w.ownsRow base e size v n xs)
 (B:Nat)(a:Option Addr)(m c:Nat)(news:List Value)(hx:b.eval x= .slice a m c)(hs:SlAt w B size a m c news)(h1:∀u∈news,u.oneCell'=true)
 (f:n+m<=maxLen)(hbytes:(n+m)*bytes<=140737488355328)(hbase:base<=w.heap.size)
 (h:∀a' c' w',w'.ownsRow base e size (.slice a' (n+m) c') (n+m) (xs++news)->w.grownBy w' v.ownBlock->((Value.slice a' (n+m) c').ownBlock=v.ownBlock\/(Value.slice a' (n+m) c').ownBlock=some w.heap.size)->K (b.put o.dst (.slice a' (n+m) c')) w'):o.wp P b w K Q:=by
 obtain⟨q,w',j,g,p,l⟩:=o5 (P:=P) w base t o.type e i z size bytes ht hi hz d hby hzs hsz v n xs hown B a m c news hs h1 f hbytes hbase;unfold Oper.wp execOp;simp only[k,resolve,invoke,builtin,Sem.run_bind,Sem.run_pure,Result.andThen_ok,List.map_toArray,List.map_cons,List.map_nil,hv,hx,j];obtain⟨a',c',rfl,_⟩:=SlAt.ofOwns g;exact h a' c' w' g p l
theorem bU{f:Array Oper}{rest:List Oper}{o:Oper}{b:Act}{Q:Exit->Act->World->Prop}(g:o.guard=none)(s x:Operand)(t:TypeId)
 (k:o.op= .call { callee:= .builtin .append,args:=#[s,x],argTypes:=#[t,t] })
 (base:Nat)(e:TypeId)(i:TypeInfo)(z:Value)(size bytes:Nat)(ht:P.underlying t=some (.slice e))(hi:P.info? e=some i)(hz:i.zero=some z)
 (d:i.size=size)(hby:i.bytes=bytes)(hzs:z.cells.size=size)(hsz:0<size)
 (v:Value)(n:Nat)(xs:List Value)(hv:b.eval s=v)(hown:w.ownsRow base e size v n xs)
 (B:Nat)(a:Option Addr)(m c:Nat)(news:List Value)(hx:b.eval x= .slice a m c)(hs:SlAt w B size a m c news)(h1:∀u∈news,u.oneCell'=true)
 (j:n+m<=maxLen)(hbytes:(n+m)*bytes<=140737488355328)(hbase:base<=w.heap.size)
 (h:∀a' c' w',w'.ownsRow base e size (.slice a' (n+m) c') (n+m) (xs++news)->w.grownBy w' v.ownBlock->((Value.slice a' (n+m) c').ownBlock=v.ownBlock\/(Value.slice a' (n+m) c').ownBlock=some w.heap.size)->wpList P f Q rest (b.put o.dst (.slice a' (n+m) c')) w'):wpList P f Q (o::rest) b w:=
 wpList_plain g fun _ l=>aS w s x t k base e i z size bytes ht hi hz d hby hzs hsz v n xs hv hown B a m c news hx hs h1 j hbytes hbase fun a' c' w' r q p=>l _ _ (h a' c' w' r q p)
end
theorem dr(w:World)(x:Value)(t:TypeId):SlAt (w.alloc (.cells #[x] t)) (w.heap.size+1) 1 (some ⟨w.heap.size,0,none⟩) 1 1 [x]:=
 ⟨rfl,Nat.le_refl _,by unfold maxLen;omega,fun e=>by simp at e,fun _=>⟨w.heap.size,0,rfl,by omega,fun i a=>by rw[cell_of_row _ w.heap.size (0+i) #[x] t (0,0) (heap_alloc_new w _)];simp⟩⟩
theorem uX(w:World)(cs:List Value)(t:TypeId)(hl:cs.length<=maxLen):SlAt (w.alloc (.cells cs.toArray t)) (w.heap.size+1) 1 (some ⟨w.heap.size,0,none⟩) cs.length cs.length cs:=
 ⟨by simp,Nat.le_refl _,hl,fun e=>by simp at e,fun _=>⟨w.heap.size,0,rfl,by omega,fun i a=>by rw[cell_of_row _ w.heap.size (0+i) cs.toArray t (0,0) (heap_alloc_new w _)];simp⟩⟩
theorem ie{x:Value}(h:x.oneCell'=true):∀u∈ [x],u.oneCell'=true:=by intro u a;simp at a;subst a;exact h
theorem lK(l:List UInt8):∀u∈l.map bv,u.oneCell'=true:=by intro u a;obtain⟨x,_,rfl⟩:=List.mem_map.1 a;rfl
structure af where
 t:Int
 a:Option Addr
 n:Nat
 c:Nat
 b:List UInt8
abbrev af.it (m:af):ar:=(m.t,m.b)
def af.cells(m:af):List Value:= [.int .i64 m.t, .slice m.a m.n m.c]
def aK:List af->List Value
 | []=> []
 | m::r=> .int .i64 m.t:: .slice m.a m.n m.c::aK r
theorem dO(l r:List af):aK (l++r)=aK l++aK r:=by
 induction l with
 | nil=>rfl
 | cons m l ih=>simp[aK,ih]
theorem eM(l:List af):(aK l).length=l.length*2:=by
 induction l with
 | nil=>rfl
 | cons m l ih=>simp[aK,ih];omega
theorem dF:∀(l:List af) (i:Nat) (m:af),l[i]? =some m->(aK l)[i*2]? =some (.int .i64 m.t)/\(aK l)[i*2+1]? =some (.slice m.a m.n m.c)
 | [],i,m,h=>by simp at h
 | x::l,0,m,h=>by simp at h;subst h;exact⟨rfl,rfl⟩
 | x::l,i+1,m,h=>by have:=dF l i m (by simpa using h);rw[show(i+1)*2=i*2+1+1 by omega];simpa[aK] using this
theorem iu:∀(l:List af) (k:Nat),(aK l).take (k*2)=aK (l.take k)
 | [],k=>by simp[aK]
 | x::l,0=>by simp[aK]
 | x::l,k+1=>by rw[show(k+1)*2=k*2+1+1 by omega];simp[aK,iu l k]
theorem lJ:∀(l:List af) (k:Nat),(aK l).drop (k*2)=aK (l.drop k)
 | [],k=>by simp[aK]
 | x::l,0=>by simp[aK]
 | x::l,k+1=>by rw[show(k+1)*2=k*2+1+1 by omega];simp[aK,lJ l k]
theorem jN(l:List af):∀u∈aK l,u.oneCell'=true:=by
 induction l with
 | nil=>intro u a;simp[aK]at a
 | cons m l ih=>
  intro u a;simp only[aK,List.mem_cons]at a;rcases a with rfl | rfl | a
  ·rfl
  ·rfl
  ·exact ih u a
abbrev af.Bs (w:World) (B:Nat) (m:af):Prop:=aM w B m.a m.n m.c m.b
structure bd (w:World) (B:Nat) (a:Option Addr) (n c:Nat) (ms:List af):Prop where
 sl:SlAt w B 2 a n c (aK ms)
 bs:∀m∈ms,m.Bs w B
theorem bd.len{w:World}{B:Nat}{a:Option Addr}{n c:Nat}{ms:List af}(h:bd w B a n c ms):ms.length=n:=by have:=h.sl.hlen;rw[eM]at this;omega
theorem bd.mono{w:World}{B b:Nat}{a:Option Addr}{n c:Nat}{ms:List af}(h:bd w B a n c ms)(hB:B<=b):bd w b a n c ms:=⟨h.sl.mono hB,fun m d=>(h.bs m d).mono hB⟩
theorem bd.below{w w':World}{B b:Nat}{a:Option Addr}{n c:Nat}{ms:List af}(h:bd w B a n c ms)(hb:Below b w w')(hB:B<=b):bd w' B a n c ms:=⟨h.sl.below hb hB,fun m d=>(h.bs m d).below hb hB⟩
theorem bd.cell{w:World}{B:Nat}{a:Option Addr}{n c:Nat}{ms:List af}(h:bd w B a n c ms){i:Nat}{m:af}(f:ms[i]? =some m):
  ∃b o,a=some ⟨b,o,none⟩/\b<B/\w.cell? ⟨b,o+i*2,none⟩=some (.int .i64 m.t)/\w.cell? ⟨b,o+(i*2+1),none⟩=some (.slice m.a m.n m.c):=by
 have k:i<ms.length:=(List.getElem?_eq_some_iff.1 f).1;have d:=eM ms;obtain⟨b,o,e,j,g⟩:=h.sl.hat (by omega);obtain⟨c1,c2⟩:=dF ms i m f;exact⟨b,o,e,j,by rw[g _ (by omega)];exact c1,by rw[g _ (by omega)];exact c2⟩
def OwnBs(U8:TypeId)(w:World)(m:af):Prop:=m.Bs w w.heap.size/\(0<m.n->∃b c fr,m.a=some b/\w.heap[b.block]? =some (.cells c U8 fr))
theorem OwnBs.below{a:TypeId}{w w':World}{m:af}(h:OwnBs a w m)(hb:Below w.heap.size w w'):OwnBs a w' m:=⟨(h.1.below hb (Nat.le_refl _)).mono hb.size,fun b=>let ⟨ad,cs,fr,e,hh⟩:=h.2 b;⟨ad,cs,fr,e,(hb.block _ (Array.getElem?_eq_some_iff.1 hh).1).trans hh⟩⟩
theorem OwnBs.grown{j T:TypeId}{w w':World}{m:af}(h:OwnBs j w m)(hg:∀k cs fr,k<w.heap.size->w.heap[k]? =some (.cells cs j fr)->w'.heap[k]? =w.heap[k]?)(hs:w.heap.size<=w'.heap.size):OwnBs j w' m:=by
 obtain⟨c,n⟩:=h;refine⟨⟨c.hlen,c.hle,c.hmax,c.hnil,c.hbig,fun l=> ?_⟩,fun p=> ?_⟩
 ·obtain⟨b,o,e,q,s⟩:=c.hat l;obtain⟨g,cs,fr,d,f⟩:=n l;have:g=⟨b,o,none⟩:=by rw[e]at d;injection d with d;exact d.symm
  subst this;exact⟨b,o,e,by omega,fun i r=>(World.cell?_of_block (a:=⟨b,o+i,none⟩) (hg b cs fr q f)).trans (s i r)⟩
 ·obtain⟨g,cs,fr,d,f⟩:=n p;exact⟨g,cs,fr,d,(hg _ cs fr (Array.getElem?_eq_some_iff.1 f).1 f).trans f⟩
theorem OwnBs.of_own{f:TypeId}{w:World}{B:Nat}{t:Int}{a:Option Addr}{n c:Nat}{b:List UInt8}(h:w.ownsRow B f 1 (.slice a n c) n (b.map bv))(hn:n<=140737488355328):OwnBs f w ⟨t,a,n,c,b⟩:=by
 refine⟨?_,fun i=> ?_⟩
 ·obtain⟨r,c5,l,j⟩:=dG h hn;injection l with e6 e7 e8;subst e6;subst e8;exact j
 ·rcases h.2 with⟨e,q⟩ | ⟨g,m,cur,e,p,k,o⟩
  ·have d:(⟨t,a,n,c,b⟩:af).n=n:=rfl;rw[d]at i;omega
  ·injection e with e1 _ _;exact⟨⟨g,0,none⟩,cur,(0,0),e1,k⟩
structure bS (U8 TI TL:TypeId) (w:World) (base p:Nat) (x:ae) (la:Option Addr) (lc:Nat) (ms:List af):Prop where
 row:w.heap[p]? =some (.cells #[.int .i64 x.base, .int .i64 x.term, .slice la ms.length lc] TL (0,0))
 own:w.ownsRow base TI 2 (.slice la ms.length lc) ms.length (aK ms)
 its:ms.map af.it=x.l
 bs:∀m∈ms,OwnBs U8 w m
 pb:base<=p
theorem bS.len{a c b:TypeId}{w:World}{base p:Nat}{x:ae}{la:Option Addr}{lc:Nat}{ms:List af}(h:bS a c b w base p x la lc ms):ms.length=x.l.length:=by rw[<-h.its];simp
theorem bS.lt{a c b:TypeId}{w:World}{base p:Nat}{x:ae}{la:Option Addr}{lc:Nat}{ms:List af}(h:bS a c b w base p x la lc ms):p<w.heap.size:=(Array.getElem?_eq_some_iff.1 h.row).1
theorem bS.sl{f i g:TypeId}{w:World}{base p:Nat}{x:ae}{la:Option Addr}{lc:Nat}{ms:List af}(h:bS f i g w base p x la lc ms):bd w w.heap.size la ms.length lc ms:=by obtain⟨a,c,e,b⟩:=SlAt.ofOwns h.own;injection e with e1 _ e2;subst e1 e2;exact⟨b,fun m d=>(h.bs m d).1⟩
theorem da{w w':World}{base e a n:Nat}{v:Value}{xs:List Value}(h:w.ownsRow base e a v n xs)(hb:Below w.heap.size w w'):w'.ownsRow base e a v n xs:=by
 refine⟨h.1,?_⟩;rcases h.2 with⟨e,d⟩ | ⟨g,b,cur,e,l,c,k,j,i,f⟩
 ·exact .inl ⟨e,d⟩
 ·exact .inr ⟨g,b,cur,e,l,(hb.block g (Array.getElem?_eq_some_iff.1 c).1).trans c,k,j,i,f⟩
theorem bS.below{a c b:TypeId}{w w':World}{base p:Nat}{x:ae}{la:Option Addr}{lc:Nat}{ms:List af}(h:bS a c b w base p x la lc ms)(hb:Below w.heap.size w w'):bS a c b w' base p x la lc ms:=⟨(hb.block p h.lt).trans h.row,da h.own hb,h.its,fun m d=>(h.bs m d).below hb,h.pb⟩
theorem bS.cells{a c b:TypeId}{w:World}{base p:Nat}{x:ae}{la:Option Addr}{lc:Nat}{ms:List af}(h:bS a c b w base p x la lc ms):
  w.cell? ⟨p,0,none⟩=some (.int .i64 x.base)/\w.cell? ⟨p,1,none⟩=some (.int .i64 x.term)/\w.cell? ⟨p,2,none⟩=some (.slice la ms.length lc)/\(∀o,w.frozen? ⟨p,o,none⟩=false):=by
 refine⟨?_,?_,?_,fun o=>frozen_of_row _ _ _ _ _ h.row⟩<;>rw[cell_of_row _ _ _ _ _ _ h.row]<;>rfl
theorem bS.far{i d c:TypeId}(hT:d≠c){w:World}{base p:Nat}{x:ae}{la:Option Addr}{lc:Nat}{ms:List af}(h:bS i d c w base p x la lc ms):(Value.slice la ms.length lc).ownBlock≠some p:=by
 intro e;rcases h.own.2 with⟨b,_⟩ | ⟨g,f,cur,b,j,a,_⟩
 ·rw[b]at e;simp[Value.ownBlock]at e
 ·rw[b]at e;simp[Value.ownBlock]at e;subst e;rw[h.row]at a;injection a with a;injection a with _ h3 _;exact hT h3.symm
structure cJ (p:Nat) (o:Option Nat) (w w':World):Prop where
 os:w'.os=w.os
 tape:w'.tape=w.tape
 output:w'.output=w.output
 size:w.heap.size<=w'.heap.size
 block:∀k,k<w.heap.size->k≠p->some k≠o->w'.heap[k]? =w.heap[k]?
theorem cJ.ofBelow{p:Nat}{o:Option Nat}{w w':World}(h:Below w.heap.size w w'):cJ p o w w':=⟨h.os,h.tape,h.output,h.size,fun k a _ _=>h.block k a⟩
theorem cJ.thenBelow{p:Nat}{o:Option Nat}{w w1 a:World}(h:cJ p o w w1)(k:Below w1.heap.size w1 a):cJ p o w a:=⟨k.os.trans h.os,k.tape.trans h.tape,k.output.trans h.output,Nat.le_trans h.size k.size,fun i b d c=>(k.block i (Nat.lt_of_lt_of_le b h.size)).trans (h.block i b d c)⟩
theorem cJ.ofBelowThen{p:Nat}{o:Option Nat}{w w1 a:World}(h:Below w.heap.size w w1)(k:cJ p o w1 a):cJ p o w a:=⟨k.os.trans h.os,k.tape.trans h.tape,k.output.trans h.output,Nat.le_trans h.size k.size,fun i b d c=>(k.block i (Nat.lt_of_lt_of_le b h.size) d c).trans (h.block i b)⟩
theorem cJ.trans{p:Nat}{o a:Option Nat}{w w1 b:World}(h:cJ p o w w1)(k:cJ p a w1 b)(ho:a=o\/∀g,a=some g->w.heap.size<=g):cJ p o w b:=
 ⟨k.os.trans h.os,k.tape.trans h.tape,k.output.trans h.output,Nat.le_trans h.size k.size,fun i c f d=>(k.block i (Nat.lt_of_lt_of_le c h.size) f (by
  rcases ho with rfl | ho
  ·exact d
  ·intro e;have:=ho i e.symm;omega)).trans (h.block i c f d)⟩
end Go.Proofs.YtogcnfhmcpkdcaaGreat
