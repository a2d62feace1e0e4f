/-
A pen in memory: the cell that holds its bytes, the row that it owns, and what a writing leaves as it was. No program in sight.
-/
import Derived.Test.YtogcnfhmcpkdcaaGreatEyeM
import Derived.Deep.Onto
import Derived.RangeFuncWrites
namespace Go.Proofs.YtogcnfhmcpkdcaaGreat
open Go.RowKit
set_option linter.unusedVariables false
structure cy (U8:TypeId) (w:World) (q:Nat) (v:Value) (l:List UInt8):Prop where
 lt:q<w.heap.size
 cell:w.cell? ⟨q,0,none⟩=some v
 free:w.frozen? ⟨q,0,none⟩=false
 own:w.ownsRow (q+1) U8 1 v l.length (l.map bv)
structure cM (q:Nat) (v:Value) (w w':World) (v':Value):Prop where
 os:w'.os=w.os
 tape:w'.tape=w.tape
 output:w'.output=w.output
 size:w.heap.size<=w'.heap.size
 block:∀k,k<w.heap.size->k≠q->v.ownBlock≠some k->w'.heap[k]? =w.heap[k]?
 row:v'.ownBlock=v.ownBlock\/∃g,v'.ownBlock=some g/\w.heap.size<=g
theorem cM.refl(q:Nat)(v:Value)(w:World):cM q v w w v:=⟨rfl,rfl,rfl,Nat.le_refl _,fun _ _ _ _=>rfl, .inl rfl⟩
theorem cM.trans{q:Nat}{v f d:Value}{a b c:World}(h:cM q v a b f)(k:cM q f b c d):cM q v a c d:=by
 refine⟨k.os.trans h.os,k.tape.trans h.tape,k.output.trans h.output,Nat.le_trans h.size k.size,fun i m l j=>(k.block i (Nat.lt_of_lt_of_le m h.size) l ?_).trans (h.block i m l j),?_⟩
 ·rcases h.row with e | ⟨g,e,n⟩
  ·rw[e];exact j
  ·rw[e];intro o;injection o with e3;omega
 ·rcases k.row with e | ⟨g,e,n⟩
  ·rw[e];exact h.row
  ·exact .inr ⟨g,e,Nat.le_trans h.size n⟩
theorem cM.below{q N:Nat}{b:TypeId}{v v':Value}{l:List UInt8}{w w':World}(h:cM q v w w' v')(hp:cy b w q v l)(hN:N<=q):Below N w w':=by
 refine⟨h.os,h.tape,h.output,h.size,fun k c=>h.block k (by have:=hp.lt;omega) (by omega) ?_⟩;intro e;rcases hp.own.2 with⟨rfl,_⟩ | ⟨g,a,cur,rfl,d,_⟩
 ·simp[Value.ownBlock]at e
 ·simp[Value.ownBlock]at e;omega
theorem cM.ofBelow{q:Nat}{v:Value}{w w':World}(h:Below w.heap.size w w'):cM q v w w' v:=⟨h.os,h.tape,h.output,h.size,fun k a _ _=>h.block k a, .inl rfl⟩
theorem own_lt{w:World}{base e a n:Nat}{v:Value}{xs:List Value}(h:w.ownsRow base e a v n xs){g:Nat}(b:v.ownBlock=some g):base<=g/\g<w.heap.size:=by
 rcases h.2 with⟨rfl,_⟩ | ⟨i,f,cur,rfl,d,c,_⟩
 ·simp[Value.ownBlock]at b
 ·simp[Value.ownBlock]at b;subst b;exact⟨d,(Array.getElem?_eq_some_iff.1 c).1⟩
theorem cy.below{c:TypeId}{w w':World}{q:Nat}{v:Value}{l:List UInt8}(h:cy c w q v l)(hb:Below w.heap.size w w'):cy c w' q v l:=by
 refine⟨Nat.lt_of_lt_of_le h.lt hb.size,by rw[hb.cell (p:=⟨q,0,none⟩) h.lt];exact h.cell,by rw[hb.frozen (p:=⟨q,0,none⟩) h.lt];exact h.free,h.own.1,?_⟩;rcases h.own.2 with⟨rfl,d⟩ | ⟨g,a,cur,rfl,k,b,j,i,f,e⟩
 ·exact .inl ⟨rfl,d⟩
 ·exact .inr ⟨g,a,cur,rfl,k,(hb.block g (Array.getElem?_eq_some_iff.1 b).1).trans b,j,i,f,e⟩
theorem xZ(k:Nat):∀n,n<256 ^ k->(le n).length<=k:=by
 induction k with
 | zero => intro n h; have : n = 0 := by simpa using h
           subst this;simp[gK]
 | succ k ih=>
  intro n h;by_cases a:n=0
  ·subst a;simp[gK]
  ·rw[jC (by omega)];have:=ih (n / 256) (by rw[Nat.pow_succ]at h;omega)
   simp;omega
theorem mn{n:Nat}(h:n<18446744073709551616):(le n).length<=8:=xZ 8 n (by omega)
structure eN (U8:TypeId) (q:Nat) (v:Value) (w wc:World) (u:Value) (xs l:List UInt8) (v':Value):Prop where
 pen:cy U8 wc q v' l
 to:cM q v w wc v'
 box:wc.cell? ⟨w.heap.size,0,none⟩=some (.pointer (some ⟨q,0,none⟩))
 row:wc.ownsRow (w.heap.size+1) U8 1 u xs.length (xs.map bv)
 far:∀g,v'.ownBlock=some g->g≠w.heap.size/\u.ownBlock≠some g
theorem uc{c:TypeId}{A B:World}{base n:Nat}{u:Value}{xs:List Value}{row:Option Nat}(h:A.ownsRow base c 1 u n xs)(hg:A.grownBy B row)(hne:∀g,u.ownBlock=some g->row≠some g):B.ownsRow base c 1 u n xs:=by
 refine⟨h.1,?_⟩;rcases h.2 with⟨rfl,d⟩ | ⟨g,a,cur,rfl,l,b,k,j,i,f⟩
 ·exact .inl ⟨rfl,d⟩
 ·exact .inr ⟨g,a,cur,rfl,l,(hg.block g (Array.getElem?_eq_some_iff.1 b).1 (fun e=>hne g rfl e.symm)).trans b,k,j,i,f⟩
theorem eN.kept{d:TypeId}{q:Nat}{v:Value}{w W W':World}{u:Value}{xs l:List UInt8}{m:Value}{row:Option Nat}(h:eN d q v w W u xs l m)(hg:W.grownBy W' row)(hr:∀r,row=some r->w.heap.size<=r/\∃o:Obj,W.heap[r]? =some o/\o.isCells=false):eN d q v w W' u xs l m:=by
 have a:∀r,row=some r->∃o:Obj,W.heap[r]? =some o/\o.isCells=false:=fun r e=>(hr r e).2
 have b:∀ {base n:Nat} {u:Value} {xs:List Value},W.ownsRow base d 1 u n xs->W'.ownsRow base d 1 u n xs:=fun {base n u xs} p=>by
  refine⟨p.1,?_⟩;rcases p.2 with⟨e,y⟩ | ⟨g,j,cur,e,D,i,C,B,A,z⟩
  ·exact .inl ⟨e,y⟩
  ·refine .inr ⟨g,j,cur,e,D,(hg.block g (Array.getElem?_eq_some_iff.1 i).1 (fun F=> ?_)).trans i,C,B,A,z⟩;obtain⟨o,c,f⟩:=a g F.symm;rw[i]at c;cases c;cases f
 refine⟨⟨Nat.lt_of_lt_of_le h.pen.lt hg.size,cell_kept h.pen.cell hg a,(frozen_kept h.pen.cell hg a).trans h.pen.free,b h.pen.own⟩,?_,cell_kept h.box hg a,b h.row,h.far⟩;exact⟨hg.os.trans h.to.os,hg.tape.trans h.to.tape,hg.output.trans h.to.output,Nat.le_trans h.to.size hg.size,fun k s x t=>(hg.block k (Nat.lt_of_lt_of_le s h.to.size) (fun e=>by have:=(hr k e.symm).1;omega)).trans (h.to.block k s x t),h.to.row⟩
theorem eN.append{D:TypeId}{q:Nat}{v:Value}{w wr:World}{u:Value}{xs l:List UInt8}{r:Value}(h:eN D q v w wr u xs l r)(hq:q<w.heap.size)(hs:w.heap.size<wr.heap.size)(hul:∀g,u.ownBlock=some g->g<wr.heap.size)
 {A w1:World}(o:Below wr.heap.size wr A)(hAs:A.heap.size=wr.heap.size+1){c:UInt8}{g cap:Nat}
 (f:w1.ownsRow (q+1) D 1 (.slice (some ⟨g,0,none⟩) (l.length+1) cap) (l.length+1) (l.map bv++ [bv c]))(hgrow:A.grownBy w1 r.ownBlock)(hat:r.ownBlock=some g\/g=wr.heap.size+1):
  eN D q v w (w1.setCell ⟨q,0,none⟩ (.slice (some ⟨g,0,none⟩) (l.length+1) cap)) u xs (l++ [c]) (.slice (some ⟨g,0,none⟩) (l.length+1) cap):=by
 have m:=h.pen.below o;have F:r.ownBlock≠some q:=fun e=>by have:=(own_lt h.pen.own e).1;omega
 have H:q<A.heap.size:=m.lt;have R:=hgrow.size;have S:q+1<=g:=(own_lt f rfl).1;have N:g≠w.heap.size/\u.ownBlock≠some g:=by
  rcases hat with e | e
  ·exact h.far g e
  ·refine⟨by omega,fun P=> ?_⟩;have:=hul g P;omega
 have t:w1.heap[q]? =A.heap[q]? :=hgrow.block q H (fun e=>F e.symm);have n:w1.cell? ⟨q,0,none⟩=some r:=(World.cell?_of_block (a:=⟨q,0,none⟩) t).trans m.cell;have b:∀k,k≠q->(w1.setCell ⟨q,0,none⟩ (.slice (some ⟨g,0,none⟩) (l.length+1) cap)).heap[k]? =w1.heap[k]? :=fun k M=>Below.heap_setCell _ _ _ k M
 refine⟨⟨by simp;omega,World.cell?_setCell_same _ _ _ n,?_,?_⟩,?_,?_,?_,?_⟩
 ·rw[World.frozen?_setCell];exact(World.frozen?_of_block (a:=⟨q,0,none⟩) t).trans m.free
 ·have T:(l++ [c]).length=l.length+1:=by simp
  have P:(l++ [c]).map bv=l.map bv++ [bv c]:=by simp
  rw[T,P];refine⟨f.1,?_⟩;rcases f.2 with⟨O,_⟩ | ⟨j,d,cur,O,C,p,B,z,y,x⟩
  ·cases O
  ·injection O with h7 h8 h9;injection h7 with h7;injection h7 with h7 _ _;subst h7;exact .inr ⟨g,d,cur,by rw[h9],C,(b g (by omega)).trans p,B,z,y,x⟩
 ·refine h.to.trans ⟨?_,?_,?_,?_,?_,?_⟩
  ·show w1.os=_;rw[hgrow.os,o.os]
  ·show w1.tape=_;rw[hgrow.tape,o.tape]
  ·show w1.output=_;rw[hgrow.output,o.output]
  ·simp;omega
  ·intro k M L J;exact(b k L).trans ((hgrow.block k (by omega) (fun e=>J e.symm)).trans (o.block k M))
  ·rcases hat with e | e
   ·exact .inl (by rw[e];rfl)
   ·exact .inr ⟨g,rfl,by omega⟩
 ·rw[World.cell?_of_block (a:=⟨w.heap.size,0,none⟩) (b w.heap.size (by omega))];rw[World.cell?_of_block (a:=⟨w.heap.size,0,none⟩) (hgrow.block w.heap.size (by omega) (fun e=>(h.far _ e.symm).1 rfl))];rw[World.cell?_of_block (a:=⟨w.heap.size,0,none⟩) (o.block w.heap.size hs)];exact h.box
 ·have G:A.ownsRow (w.heap.size+1) D 1 u xs.length (xs.map bv):=by
   refine⟨h.row.1,?_⟩;rcases h.row.2 with⟨e,I⟩ | ⟨j,d,cur,e,C,p,B,z,y,x⟩
   ·exact .inl ⟨e,I⟩
   ·exact .inr ⟨j,d,cur,e,C,(o.block j (Array.getElem?_eq_some_iff.1 p).1).trans p,B,z,y,x⟩
  have s:=uc G hgrow (fun j i e=>(h.far j e).2 i);refine⟨s.1,?_⟩;rcases s.2 with⟨e,I⟩ | ⟨j,d,cur,e,C,p,B,z,y,x⟩
  ·exact .inl ⟨e,I⟩
  ·exact .inr ⟨j,d,cur,e,C,(b j (by omega)).trans p,B,z,y,x⟩
 ·intro j i;simp[Value.ownBlock]at i;subst i;exact N
end Go.Proofs.YtogcnfhmcpkdcaaGreat
