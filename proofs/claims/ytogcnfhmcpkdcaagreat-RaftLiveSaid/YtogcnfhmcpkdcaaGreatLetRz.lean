/-
Contract of letter.Read (without the reference's reading).
-/
import Derived.Test.YtogcnfhmcpkdcaaGreatLetPl
import Derived.Test.YtogcnfhmcpkdcaaGreatLetM2
import Derived.Test.YtogcnfhmcpkdcaaGreatReadM
import Derived.Test.YtogcnfhmcpkdcaaGreatLine2
import Derived.Test.YtogcnfhmcpkdcaaGreatFieldM
set_option maxRecDepth 100000
set_option maxHeartbeats 4000000
namespace Go.Proofs.YtogcnfhmcpkdcaaGreat
open Go.RowKit
set_option linter.unusedVariables false
set_option linter.unusedSimpArgs false
theorem jv{w w':World}{base e a n:Nat}{v:Value}{xs:List Value}(h:w.ownsRow base e a v n xs)(hb:∀g cur,v.ownBlock=some g->w.heap[g]? =some (.cells cur e (0,0))->w'.heap[g]? =w.heap[g]?):w'.ownsRow base e a v n xs:=by
 refine⟨h.1,?_⟩;rcases h.2 with⟨e,d⟩ | ⟨g,b,cur,e,l,c,k,j,i,f⟩
 ·exact .inl ⟨e,d⟩
 ·exact .inr ⟨g,b,cur,e,l,(hb g cur (by rw[e];rfl) c).trans c,k,j,i,f⟩
theorem xS{w:World}{k:Nat}{cs b:Array Value}{T c:TypeId}{fr a:Nat×Nat}(h:w.heap[k]? =some (.cells cs T fr))(h':w.heap[k]? =some (.cells b c a))(hne:(T:Nat)≠c):False:=by rw[h]at h';injection h' with h';injection h' with _ e _;exact hne e
def sT:ax:=⟨0,0,0,0,0,false,[],[]⟩
structure gW (N:Nat) (W:World) (v:ax) (ia:Option Addr) (ic:Nat) (ms:List af) (ba:Option Addr) (bc:Nat):Prop where
 own:W.ownsRow N 40 2 (.slice ia ms.length ic) ms.length (aK ms)
 its:ms.map af.it=v.its
 bs:∀m∈ms,m.n<=8192/\W.ownsRow N 5 1 (.slice m.a m.n m.c) m.n (m.b.map bv)
 b:W.ownsRow N 5 1 (.slice ba v.b.length bc) v.b.length (v.b.map bv)
 bl:v.b.length<=65536
theorem gW.moved{N:Nat}{W W':World}{v:ax}{e:Option Addr}{d:Nat}{ms:List af}{ba:Option Addr}{f:Nat}(h:gW N W v e d ms ba f)(hk:∀k,N<=k->k<W.heap.size->W'.heap[k]? =W.heap[k]?):gW N W' v e d ms ba f:=⟨jv h.own fun g cur a _=>hk g (own_lt h.own a).1 (own_lt h.own a).2,h.its,fun m c=>⟨(h.bs m c).1,jv (h.bs m c).2 fun g cur a _=>hk g (own_lt (h.bs m c).2 a).1 (own_lt (h.bs m c).2 a).2⟩,jv h.b fun g cur a _=>hk g (own_lt h.b a).1 (own_lt h.b a).2,h.bl⟩
theorem gW.mono{N M:Nat}{W:World}{v:ax}{c:Option Addr}{a:Nat}{ms:List af}{ba:Option Addr}{e:Nat}(h:gW N W v c a ms ba e)(hN:M<=N):gW M W v c a ms ba e:=⟨World.ownsRow.mono h.own hN,h.its,fun m d=>⟨(h.bs m d).1,World.ownsRow.mono (h.bs m d).2 hN⟩,World.ownsRow.mono h.b hN,h.bl⟩
structure Lk (w:World) (q:Nat) (W:World) (r:List UInt8) (v:ax) (ia:Option Addr) (ic:Nat) (ms:List af) (ba:Option Addr) (bc:Nat):Prop where
 but:fV q w W
 eye:bF W q r
 size:w.heap.size+2<=W.heap.size
 box:W.heap[w.heap.size]? =some (.cells #[.pointer (some ⟨q,0,none⟩)] 128 (0,0))
 row:W.heap[w.heap.size+1]? =some (.cells (aF v ia ms.length ic ba bc) 32 (0,0))
 own:gW (w.heap.size+2) W v ia ic ms ba bc
section
variable {w : World} {q : Nat} {W W' : World} {r r' : List UInt8} {v v' : ax} {ia ia' : Option Addr} {ic ic' : Nat} {ms ms' : List af} {ba ba' : Option Addr} {bc bc' : Nat}
theorem Lk.step(h:Lk w q W r v ia ic ms ba bc)(hq:q<w.heap.size)(hb:fV q W W')(he:bF W' q r'):Lk w q W' r' v ia ic ms ba bc:=by have a:=h.size;exact⟨h.but.trans hb,he,Nat.le_trans a hb.size,(hb.block _ (by omega) (by omega)).trans h.box,(hb.block _ (by omega) (by omega)).trans h.row,h.own.moved fun k c b=>hb.block k b (by omega)⟩
theorem Lk.below(h:Lk w q W r v ia ic ms ba bc)(hq:q<w.heap.size)(hb:Below W.heap.size W W'):Lk w q W' r v ia ic ms ba bc:=by have a:=h.size;exact h.step hq (fV.ofBelow (by omega) hb) (h.eye.below hb)
theorem Lk.turn(h:Lk w q W r v ia ic ms ba bc)(hq:q<w.heap.size)(hb:Below (w.heap.size+1) W W')(hrow:W'.heap[w.heap.size+1]? =some (.cells (aF v' ia' ms'.length ic' ba' bc') 32 (0,0)))(ho:gW (w.heap.size+2) W' v' ia' ic' ms' ba' bc'):Lk w q W' r v' ia' ic' ms' ba' bc':=by have c:=h.size;refine⟨⟨hb.os.trans h.but.os,hb.tape.trans h.but.tape,hb.output.trans h.but.output,Nat.le_trans h.but.size hb.size,fun k d b=>(hb.block k (by omega)).trans (h.but.block k d b),fun o e a=>(hb.cell (p:=⟨q,o,e⟩) (show q<_ by omega)).trans (h.but.cell o e a)⟩,h.eye.keep (hb.mono (by omega)),Nat.le_trans c hb.size,(hb.block _ (by omega)).trans h.box,hrow,ho⟩
theorem Lk.set(h:Lk w q W r v ia ic ms ba bc)(hq:q<w.heap.size)(o:Nat)(x:Value)(hc:(aF v ia ms.length ic ba bc).setIfInBounds o x=aF v' ia ms.length ic ba bc)(hi:v'.its=v.its)(hv:v'.b=v.b):Lk w q (W.setCell ⟨w.heap.size+1,o,none⟩ x) r v' ia ic ms ba bc:=by
 have d:=h.size;have c:=heap_setCell_same W (w.heap.size+1) o _ _ x h.row;have a:=h.own.moved (W':=W.setCell ⟨w.heap.size+1,o,none⟩ x) fun k f e=>Below.heap_setCell _ _ _ k (by show k≠w.heap.size+1;omega)
 refine h.turn hq ((Below.refl _ _).setCell (by simp) _) ?_ ⟨a.own,a.its.trans hi.symm,a.bs,by rw[hv];exact a.b,by rw[hv];exact a.bl⟩;rw[c]
 try simp only[Array.set!_eq_setIfInBounds]
 rw[hc]
theorem Lk.cells(h:Lk w q W r v ia ic ms ba bc):(W.cell? ⟨w.heap.size+1,0,none⟩=some (.int .i64 v.k)/\W.cell? ⟨w.heap.size+1,1,none⟩=some (.int .i64 v.t)/\W.cell? ⟨w.heap.size+1,2,none⟩=some (.int .i64 v.a)/\W.cell? ⟨w.heap.size+1,3,none⟩=some (.int .i64 v.u)/\W.cell? ⟨w.heap.size+1,4,none⟩=some (.int .i64 v.o)/\W.cell? ⟨w.heap.size+1,5,none⟩=some (.bool v.y)/\W.cell? ⟨w.heap.size+1,6,none⟩=some (.slice ia ms.length ic)/\W.cell? ⟨w.heap.size+1,7,none⟩=some (.slice ba v.b.length bc))/\(∀o,W.frozen? ⟨w.heap.size+1,o,none⟩=false)/\W.cell? ⟨w.heap.size,0,none⟩=some (.pointer (some ⟨q,0,none⟩)):=⟨aq h.row,fun o=>frozen_of_row _ _ _ _ _ h.row,cell_of_row W w.heap.size 0 _ _ _ h.box⟩
end
theorem gu(q g:Nat)(l:List UInt8)(w:World)(h:bF w q l)(hg:w.heap[g]? =some (.cells #[.pointer (some ⟨q,0,none⟩)] 128 (0,0))):
  Calls Tryz.prog 123 #[.pointer (some ⟨g,0,none⟩)] w fun e w'=>kD q (ak 1099511627776 l) w w' e fun v=>e= .returned (.int .i64 v):=by
 have c0:=cell_of_row w g 0 _ _ _ hg;obtain⟨N,hN⟩:∃N,N=ak 1099511627776 l:=⟨_,rfl⟩
 rw[<-hN];have d:=Hh hN;clear hN;go_enter Tryz.func123,Tryz.ntmps123
 go_wp2_with fail;refine(dK q 1099511627776 l w h).mono ?_;rintro e k ⟨c,b⟩;rw[<-d.out]at b;have f:=Hh c;clear c;cases N with
 | err x=>obtain rfl:e=bK x:=b;go_wp2;exact⟨rfl,f.out,rfl⟩
 | ok v r1=>obtain⟨rfl,a⟩:=b;have i:=az d.out.symm;have j:IntKind.i64.wrap (v:Int)=v:=IntWalk.i64_in _ (by omega);have HE:=Hh a;clear a i;go_wp2;go_ret;exact⟨f.out,rfl,HE.out⟩
theorem im(q g:Nat)(l:List UInt8)(w:World)(h:bF w q l)(hg:w.heap[g]? =some (.cells #[.pointer (some ⟨q,0,none⟩)] 128 (0,0))):
  Calls Tryz.prog 124 #[.pointer (some ⟨g,0,none⟩)] w fun e w'=>kD q (ak 1099511627776 l) w w' e fun v=>e= .returned (.int .i64 v):=by
 have c0:=cell_of_row w g 0 _ _ _ hg;obtain⟨N,hN⟩:∃N,N=ak 1099511627776 l:=⟨_,rfl⟩
 rw[<-hN];have d:=Hh hN;clear hN;go_enter Tryz.func124,Tryz.ntmps124
 go_wp2_with fail;refine(dK q 1099511627776 l w h).mono ?_;rintro e k ⟨c,b⟩;rw[<-d.out]at b;have f:=Hh c;clear c;cases N with
 | err x=>obtain rfl:e=bK x:=b;go_wp2;exact⟨rfl,f.out,rfl⟩
 | ok v r1=>obtain⟨rfl,a⟩:=b;have i:=az d.out.symm;have j:IntKind.i64.wrap (v:Int)=v:=IntWalk.i64_in _ (by omega);have HE:=Hh a;clear a i;go_wp2;go_ret;exact⟨f.out,rfl,HE.out⟩
def yv(q:Nat)(N:bO ax)(w:World)(e:Ending)(w':World):Prop:=
 fV q w w'/\match N with
  | .err x=>e=bK x
  | .ok v rest=>∃c b a ba d,e= .returned (.agg (aF v c (List.length a) b ba d))/\bF w' q rest/\gW w.heap.size w' v c b a ba d
theorem sr(q:Nat)(l:List UInt8)(w:World)(h:bF w q l):
  Calls Tryz.prog 119 #[.pointer (some ⟨q,0,none⟩)] w (yv q (fd l) w):=by
 obtain⟨i0,hi,hz0,hz1,hz2⟩:=info_parts eJ;obtain⟨N,hN⟩:∃N,N=fd l:=⟨_,rfl⟩
 rw[<-hN];have HN0:=Hh (hN.trans (by rw[fd]));have H:=h.1;obtain⟨W0,hW0⟩:∃W0,W0=(w.alloc (.cells #[.pointer (some ⟨q,0,none⟩)] 128)).alloc (.cells #[.int .i64 0, .int .i64 0, .int .i64 0, .int .i64 0, .int .i64 0, .bool false, .slice none 0 0, .slice none 0 0] 32):=⟨_,rfl⟩
 have HW0:=Hh hW0;have hb0:Below w.heap.size w W0:=by rw[hW0];exact((Below.refl _ _).alloc (Nat.le_refl _) _).alloc (by simp) _
 have HC0:=Hh (show Lk w q W0 l ⟨0,0,0,0,0,false,[],[]⟩ none 0 [] none 0 from⟨fV.ofBelow H hb0,h.below hb0,by rw[hW0];simp,by
   rw[hW0];exact(((Below.refl _ _).alloc (Nat.le_refl (w.alloc (.cells #[.pointer (some ⟨q,0,none⟩)] 128)).heap.size) _).block _ (by simp)).trans (heap_alloc_new w _),by
   rw[hW0];have h9:=heap_alloc_new (w.alloc (.cells #[.pointer (some ⟨q,0,none⟩)] 128)) (.cells #[.int .i64 0, .int .i64 0, .int .i64 0, .int .i64 0, .int .i64 0, .bool false, .slice none 0 0, .slice none 0 0] 32);rw[show(w.alloc (.cells #[.pointer (some ⟨q,0,none⟩)] 128)).heap.size=w.heap.size+1 by simp]at h9;exact h9,⟨⟨rfl, .inl ⟨rfl,rfl⟩⟩,rfl,by simp,⟨rfl, .inl ⟨rfl,rfl⟩⟩,by simp⟩⟩)
 clear hN h hW0 hb0;go_enter Tryz.func119,Tryz.ntmps119
 go_wp2_with fail;rw[<-HW0.out];refine(dK q 5 l _ HC0.out.eye).mono ?_;rintro e w1 ⟨hb1,hr1⟩;cases hg1:ak 5 l with
 | err x=>
  rw[hg1]at hr1;obtain rfl:e=bK x:=hr1;have hN:N= .err x:=by rw[HN0.out,hg1];rfl
  subst hN;have U:=Hh (HC0.out.but.trans hb1);clear hg1 hb1;go_wp2;exact⟨rfl,U.out,rfl⟩
 | ok k r1=>
  rw[hg1]at hr1;obtain⟨rfl,heye1⟩:=hr1;have hm1:=az hg1;have HN1:=Hh (show N=if k=0 then .err 25 else(ak 1099511627776 r1).bind fun t R=>
  if k=1 then(ak 1099511627776 R).bind fun a J=>(ak 1099511627776 J).bind fun u i=> .ok ⟨1,t,a,u,0,false,[],[]⟩ i
  else if k=2 then(ak 1 R).bind fun y J=> .ok ⟨2,t,0,0,0,y==1,[],[]⟩ J
  else if k=3 then(ak 1099511627776 R).bind fun a J=>(ak 1099511627776 J).bind fun u i=>(ak 1099511627776 i).bind fun o G=>(ak 16 G).bind fun n r6=>(aJ n r6).bind fun p r7=> .ok ⟨3,t,a,u,o,false,p,[]⟩ r7
  else if k=4 then(ak 1 R).bind fun y J=>(ak 1099511627776 J).bind fun a i=>(ak 1099511627776 i).bind fun o G=> .ok ⟨4,t,a,0,o,y==1,[],[]⟩ G
  else(ak 1099511627776 R).bind fun a J=>(ak 1099511627776 J).bind fun u i=>(aT 65536 i).bind fun b G=> .ok ⟨5,t,a,u,0,false,[],b⟩ G by rw[HN0.out,hg1];rfl)
  have HC1:=Hh (HC0.out.step H hb1 heye1);clear hg1 hb1 heye1;have wk:IntKind.i64.wrap (k:Int)=k:=IntWalk.i64_in _ (by omega);obtain⟨⟨c0, -, -, -, -, -, -, -⟩,S,bx⟩:=HC1.out.cells;have f0:=S 0;clear S;by_cases hk0:k=0
  ·subst hk0;have HN9:=Hh (show N= .err 25 by rw[HN1.out];rfl);have HC2:=Hh (HC1.out.set H 0 (.int .i64 0) (v':=⟨0,0,0,0,0,false,[],[]⟩) rfl rfl rfl);go_wp2_with fail;refine(dY _ 25 (by decide) _).mono ?_;rintro e w9 ⟨rfl,rfl⟩;have hN:=HN9.out;subst hN;go_wp2;exact⟨rfl,HC2.out.but,rfl⟩
  ·have hK:k=1\/k=2\/k=3\/k=4\/k=5:=by omega
   have tk0:((k:Int)==0)=false:=by simp;omega
   have HN1b:=Hh (show N=(ak 1099511627776 r1).bind fun t R=>
    if k=1 then(ak 1099511627776 R).bind fun a J=>(ak 1099511627776 J).bind fun u i=> .ok ⟨1,t,a,u,0,false,[],[]⟩ i
    else if k=2 then(ak 1 R).bind fun y J=> .ok ⟨2,t,0,0,0,y==1,[],[]⟩ J
    else if k=3 then(ak 1099511627776 R).bind fun a J=>(ak 1099511627776 J).bind fun u i=>(ak 1099511627776 i).bind fun o G=>(ak 16 G).bind fun n r6=>(aJ n r6).bind fun p r7=> .ok ⟨3,t,a,u,o,false,p,[]⟩ r7
    else if k=4 then(ak 1 R).bind fun y J=>(ak 1099511627776 J).bind fun a i=>(ak 1099511627776 i).bind fun o G=> .ok ⟨4,t,a,0,o,y==1,[],[]⟩ G
    else(ak 1099511627776 R).bind fun a J=>(ak 1099511627776 J).bind fun u i=>(aT 65536 i).bind fun b G=> .ok ⟨5,t,a,u,0,false,[],b⟩ G by rw[HN1.out,if_neg hk0])
   have HC1b:=Hh (HC1.out.set H 0 (.int .i64 k) (v':=⟨k,0,0,0,0,false,[],[]⟩) rfl rfl rfl);go_wp2_with fail;clear c0 f0 bx;obtain⟨w1b,hw1b⟩:∃W,W=w1.setCell ⟨w.heap.size+1,0,none⟩ (.int .i64 k):=⟨_,rfl⟩
   rw[<-hw1b]at HC1b ⊢;clear hw1b;refine(im q w.heap.size r1 _ HC1b.out.eye HC1b.out.box).mono ?_;rintro e w2 ⟨hb2,hr2⟩;cases hg2:ak 1099511627776 r1 with
   | err x=>
    rw[hg2]at hr2;obtain rfl:e=bK x:=hr2;have hN:N= .err x:=by rw[HN1b.out,hg2];rfl
    subst hN;have U:=Hh (HC1b.out.but.trans hb2);clear hg2 hb2;go_wp2;exact⟨rfl,U.out,rfl⟩
   | ok t R=>
    rw[hg2]at hr2;obtain⟨rfl,heye2⟩:=hr2;have hm2:=az hg2;have HN2:=Hh (show N=if k=1 then(ak 1099511627776 R).bind fun a J=>(ak 1099511627776 J).bind fun u i=> .ok ⟨1,t,a,u,0,false,[],[]⟩ i
     else if k=2 then(ak 1 R).bind fun y J=> .ok ⟨2,t,0,0,0,y==1,[],[]⟩ J
     else if k=3 then(ak 1099511627776 R).bind fun a J=>(ak 1099511627776 J).bind fun u i=>(ak 1099511627776 i).bind fun o G=>(ak 16 G).bind fun n r6=>(aJ n r6).bind fun p r7=> .ok ⟨3,t,a,u,o,false,p,[]⟩ r7
     else if k=4 then(ak 1 R).bind fun y J=>(ak 1099511627776 J).bind fun a i=>(ak 1099511627776 i).bind fun o G=> .ok ⟨4,t,a,0,o,y==1,[],[]⟩ G
     else(ak 1099511627776 R).bind fun a J=>(ak 1099511627776 J).bind fun u i=>(aT 65536 i).bind fun b G=> .ok ⟨5,t,a,u,0,false,[],b⟩ G by rw[HN1b.out,hg2];rfl)
    have HC2:=Hh (HC1b.out.step H hb2 heye2);clear hg2 hb2 heye2;have s:=Hh (HC2.out.set H 1 (.int .i64 t) (v':=⟨k,t,0,0,0,false,[],[]⟩) rfl rfl rfl);obtain⟨⟨c0, -, -, -, -, -, -, -⟩,S,bx⟩:=HC2.out.cells;have f1:=S 1;clear S;have c1:=HC2.out.cells.1.2.1;clear HN0 HN1 HN1b HC0 HC1 HC1b hm1 tk0 hk0 wk;rcases hK with rfl | rfl | rfl | rfl | rfl
    ·have a3:=Hh (show N=(ak 1099511627776 R).bind fun a J=>(ak 1099511627776 J).bind fun u i=> .ok ⟨1,t,a,u,0,false,[],[]⟩ i from HN2.out);have J:=R;go_wp2_with fail;clear c0 c1 f1 bx;obtain⟨w3,Y⟩:∃W,W=w2.setCell ⟨w.heap.size+1,1,none⟩ (.int .i64 t):=⟨_,rfl⟩
     rw[<-Y]at s ⊢;clear Y;refine(gu q w.heap.size R _ s.out.eye s.out.box).mono ?_;rintro e w4 ⟨C,A⟩;cases hg4:ak 1099511627776 R with
     | err x=>
      rw[hg4]at A;obtain rfl:e=bK x:=A;have hN:N= .err x:=by rw[a3.out,hg4];rfl
      subst hN;have U:=Hh (s.out.but.trans C);clear hg4 C;go_wp2;exact⟨rfl,U.out,rfl⟩
     | ok a i=>
      rw[hg4]at A;obtain⟨rfl,f⟩:=A;have hm4:=az hg4;have HN4:=Hh (show N=(ak 1099511627776 i).bind fun u i=> .ok ⟨1,t,a,u,0,false,[],[]⟩ i by rw[a3.out,hg4];rfl);have I:=Hh (s.out.step H C f);clear hg4 C f;go_wp2_with fail;refine(im q w.heap.size i _ I.out.eye I.out.box).mono ?_;rintro e w5 ⟨a2,a0⟩;cases hg5:ak 1099511627776 i with
      | err x=>
       rw[hg5]at a0;obtain rfl:e=bK x:=a0;have hN:N= .err x:=by rw[HN4.out,hg5];rfl
       subst hN;have U:=Hh (I.out.but.trans a2);clear hg5 a2;go_wp2;exact⟨rfl,U.out,rfl⟩
      | ok u G=>rw[hg5]at a0;obtain⟨rfl,P⟩:=a0;have hm5:=az hg5;have HN5:=Hh (show N=(.ok ⟨1,t,a,u,0,false,[],[]⟩ G:bO ax) by rw[HN4.out,hg5];rfl);have T:=Hh (I.out.step H a2 P);clear hg5 a2 P;have D:=Hh ((T.out.set H 2 (.int .i64 a) (v':=⟨1,t,a,0,0,false,[],[]⟩) rfl rfl rfl).set H 3 (.int .i64 u) (v':=⟨1,t,a,u,0,false,[],[]⟩) rfl rfl rfl);have hN:=HN5.out;subst hN;obtain⟨⟨c0,c1,c2,c3,c4,c5,c6,c7⟩,S, -⟩:=T.out.cells;have f2:=S 2;have f3:=S 3;clear S;go_wp2_with (refine aI rfl 32 (.tmp 2) (.tmp 87) rfl (w.heap.size+1) _ rfl rfl 32 _ (D.out.row) aR rfl (by simp[Value.oneCell']) ?_;intro X d L hb9 hs9);have hsF:=D.out.size;have M:=Hh (D.out.turn H (W':=X) (hb9) d (D.out.own.moved fun k h1 h2=>L k (by omega)));refine bodyPost_ret (results_cell_row rfl _ _ (w.heap.size+1) 32 _ (0,0) _ rfl d Tryz.underlying32 rfl aR) rfl ?_;exact⟨M.out.but,none,0,([]:List af),none,0,rfl,M.out.eye,M.out.own.mono (by omega)⟩
    ·have a3:=Hh (show N=(ak 1 R).bind fun y J=> .ok ⟨2,t,0,0,0,y==1,[],[]⟩ J from HN2.out);have bx3:=s.out.cells.2.2;go_wp2_with fail;clear bx3;clear c0 c1 f1 bx;obtain⟨w3,Y⟩:∃W,W=w2.setCell ⟨w.heap.size+1,1,none⟩ (.int .i64 t):=⟨_,rfl⟩
     rw[<-Y]at s ⊢;clear Y;refine(dK q 1 R _ s.out.eye).mono ?_;rintro e w4 ⟨C,A⟩;cases hg4:ak 1 R with
     | err x=>
      rw[hg4]at A;obtain rfl:e=bK x:=A;have hN:N= .err x:=by rw[a3.out,hg4];rfl
      subst hN;have U:=Hh (s.out.but.trans C);clear hg4 C;go_wp2;exact⟨rfl,U.out,rfl⟩
     | ok y i=>
      rw[hg4]at A;obtain⟨rfl,f⟩:=A;have hm4:=az hg4;have HN4:=Hh (show N=(.ok ⟨2,t,0,0,0,y==1,[],[]⟩ i:bO ax) by rw[a3.out,hg4];rfl);have I:=Hh (s.out.step H C f);clear hg4 C f;have ty:((y:Int)==1)=(y==1):=by rw[Bool.eq_iff_iff];simp;omega
      have D:=Hh (I.out.set H 5 (.bool (y==1)) (v':=⟨2,t,0,0,0,y==1,[],[]⟩) rfl rfl rfl);have hN:=HN4.out;subst hN;obtain⟨⟨c0,c1,c2,c3,c4,c5,c6,c7⟩,S, -⟩:=I.out.cells;have f5:=S 5;clear S;go_wp2_with (refine aI rfl 32 (.tmp 2) (.tmp 87) rfl (w.heap.size+1) _ rfl rfl 32 _ (D.out.row) aR rfl (by simp[Value.oneCell']) ?_;intro X d L hb9 hs9);have hsF:=D.out.size;have M:=Hh (D.out.turn H (W':=X) (hb9) d (D.out.own.moved fun k h1 h2=>L k (by omega)));refine bodyPost_ret (results_cell_row rfl _ _ (w.heap.size+1) 32 _ (0,0) _ rfl d Tryz.underlying32 rfl aR) rfl ?_;exact⟨M.out.but,none,0,([]:List af),none,0,rfl,M.out.eye,M.out.own.mono (by omega)⟩
    ·have a3:=Hh (show N=(ak 1099511627776 R).bind fun a J=>(ak 1099511627776 J).bind fun u i=>(ak 1099511627776 i).bind fun o G=>(ak 16 G).bind fun n r6=>(aJ n r6).bind fun p r7=> .ok ⟨3,t,a,u,o,false,p,[]⟩ r7 from HN2.out);go_wp2_with fail;clear c0 c1 f1 bx;obtain⟨w3,Y⟩:∃W,W=w2.setCell ⟨w.heap.size+1,1,none⟩ (.int .i64 t):=⟨_,rfl⟩
     rw[<-Y]at s ⊢;clear Y;refine(gu q w.heap.size R _ s.out.eye s.out.box).mono ?_;rintro e w4 ⟨C,A⟩;cases hg4:ak 1099511627776 R with
     | err x=>
      rw[hg4]at A;obtain rfl:e=bK x:=A;have hN:N= .err x:=by rw[a3.out,hg4];rfl
      subst hN;have U:=Hh (s.out.but.trans C);clear hg4 C;go_wp2;exact⟨rfl,U.out,rfl⟩
     | ok a i=>
      rw[hg4]at A;obtain⟨rfl,f⟩:=A;have hm4:=az hg4;have HN4:=Hh (show N=(ak 1099511627776 i).bind fun u i=>(ak 1099511627776 i).bind fun o G=>(ak 16 G).bind fun n r6=>(aJ n r6).bind fun p r7=> .ok ⟨3,t,a,u,o,false,p,[]⟩ r7 by rw[a3.out,hg4];rfl);have I:=Hh (s.out.step H C f);clear hg4 C f;go_wp2_with fail;refine(im q w.heap.size i _ I.out.eye I.out.box).mono ?_;rintro e w5 ⟨a2,a0⟩;cases hg5:ak 1099511627776 i with
      | err x=>
       rw[hg5]at a0;obtain rfl:e=bK x:=a0;have hN:N= .err x:=by rw[HN4.out,hg5];rfl
       subst hN;have U:=Hh (I.out.but.trans a2);clear hg5 a2;go_wp2;exact⟨rfl,U.out,rfl⟩
      | ok u G=>
       rw[hg5]at a0;obtain⟨rfl,P⟩:=a0;have hm5:=az hg5;have HN5:=Hh (show N=(ak 1099511627776 G).bind fun o G=>(ak 16 G).bind fun n r6=>(aJ n r6).bind fun p r7=> .ok ⟨3,t,a,u,o,false,p,[]⟩ r7 by rw[HN4.out,hg5];rfl);have T:=Hh (I.out.step H a2 P);clear hg5 a2 P;go_wp2_with fail;refine(gu q w.heap.size G _ T.out.eye T.out.box).mono ?_;rintro e w6 ⟨a1,Z⟩;cases hg6:ak 1099511627776 G with
       | err x=>
        rw[hg6]at Z;obtain rfl:e=bK x:=Z;have hN:N= .err x:=by rw[HN5.out,hg6];rfl
        subst hN;have U:=Hh (T.out.but.trans a1);clear hg6 a1;go_wp2;exact⟨rfl,U.out,rfl⟩
       | ok o r6=>
        rw[hg6]at Z;obtain⟨rfl,O⟩:=Z;have hm6:=az hg6;have HN6:=Hh (show N=(ak 16 r6).bind fun n r6=>(aJ n r6).bind fun p r7=> .ok ⟨3,t,a,u,o,false,p,[]⟩ r7 by rw[HN5.out,hg6];rfl);have a5:=Hh (T.out.step H a1 O);clear hg6 a1 O;have HC7:=Hh (((a5.out.set H 2 (.int .i64 a) (v':=⟨3,t,a,0,0,false,[],[]⟩) rfl rfl rfl).set H 3 (.int .i64 u) (v':=⟨3,t,a,u,0,false,[],[]⟩) rfl rfl rfl).set H 4 (.int .i64 o) (v':=⟨3,t,a,u,o,false,[],[]⟩) rfl rfl rfl);have HN7:=HN6;obtain⟨⟨-, -,c2,c3,c4, -, -, -⟩,S,bx⟩:=a5.out.cells;have f2:=S 2;have f3:=S 3;have f4:=S 4;clear S;go_wp2_with fail;clear c2 c3 c4 f2 f3 f4 bx;obtain⟨w7,hw7⟩:∃W,W=((w6.setCell ⟨w.heap.size+1,2,none⟩ (.int .i64 a)).setCell ⟨w.heap.size+1,3,none⟩ (.int .i64 u)).setCell ⟨w.heap.size+1,4,none⟩ (.int .i64 o):=⟨_,rfl⟩
        rw[<-hw7]at HC7 ⊢;clear hw7;refine(dK q 16 r6 _ HC7.out.eye).mono ?_;rintro e w8 ⟨hb8,hr8⟩;cases hg8:ak 16 r6 with
        | err x=>
         rw[hg8]at hr8;obtain rfl:e=bK x:=hr8;have hN:N= .err x:=by rw[HN7.out,hg8];rfl
         subst hN;have U:=Hh (HC7.out.but.trans hb8);clear hg8 hb8;go_wp2;exact⟨rfl,U.out,rfl⟩
        | ok n r8=>
         rw[hg8]at hr8;obtain⟨rfl,heye8⟩:=hr8;have hm8:=az hg8;have HN8:=Hh (show N=(aJ n r8).bind fun p r7=> .ok ⟨3,t,a,u,o,false,p,[]⟩ r7 by rw[HN7.out,hg8];rfl);have HC8:=Hh (HC7.out.step H hb8 heye8);clear hg8 hb8 heye8;go_wp2_with fail;go_loopw [49] (fun kv wr=>∃(k:Nat) (r:List UInt8) (p:List ar) (la:Option Addr) (lc:Nat) (ms:List af),kv= .int .u64 k/\k<=n/\ms.length=k/\N=((aJ (n-k) r).bind fun l r'=> .ok ⟨3,t,a,u,o,false,p++l,[]⟩ r')/\Lk w q wr r ⟨3,t,a,u,o,false,p,[]⟩ la lc ms none 0) (fun kv _=>n-(intOf kv).toNat)
         case atStart=>exact⟨0,r8,[],none,0,[],rfl,by omega,rfl,by rw[HN8.out];rfl,HC8.out⟩
         case round=>
          obtain⟨k,r,p,la,lc,ms,rfl,hk,hmk,hNk,hck⟩:=hrel;have HNK:=Hh hNk;have HCK:=Hh hck;have HMK:=Hh hmk;have hml:ms.length<=16:=by omega
          have hsr:=hck.size;clear hNk hck hmk;by_cases hkn:k<n
          ·have tk:decide ((k:Int)<(n:Int))=true:=by simpa using hkn
           have hk1:n-k=(n-(k+1))+1:=by omega
           go_wp2_with fail;refine(im q w.heap.size r _ HCK.out.eye HCK.out.box).mono ?_;rintro e F ⟨a1,Z⟩;cases hg6:ak 1099511627776 r with
           | err x=>
            rw[hg6]at Z;obtain rfl:e=bK x:=Z;have hN:N= .err x:=by rw[HNK.out,hk1,aJ,hg6];rfl
            subst hN;have U:=Hh (HCK.out.but.trans a1);clear hg6 a1 hk1;go_wp2;exact⟨rfl,U.out,rfl⟩
           | ok z r6=>
            rw[hg6]at Z;obtain⟨rfl,O⟩:=Z;have hz9:=az hg6;have HC6':=Hh (HCK.out.step H a1 O);have HNK6:=Hh (show N=(aT 8192 r6).bind fun v r7=>(aJ (n-(k+1)) r7).bind fun l r'=> .ok ⟨3,t,a,u,o,false,p++(((z:Int),v)::l),[]⟩ r' from by
             rw[HNK.out,hk1,aJ,hg6,bO.bind_ok];cases hx:aT 8192 r6 with
             | err x=>rfl
             | ok v7 r7=>simp only[bO.bind_ok];cases hy:aJ (n-(k+1)) r7<;>rfl)
            obtain⟨W7,hW7⟩:∃W7,W7=F.alloc (.cells #[.int .i64 z, .slice none 0 0] 40):=⟨_,rfl⟩
            have HW7:=Hh hW7;have a4:Below F.heap.size F W7:=by rw[hW7];exact(Below.refl _ _).alloc (Nat.le_refl _) _
            have hr7:W7.heap[F.heap.size]? =some (.cells #[.int .i64 z, .slice none 0 0] 40 (0,0)):=by rw[hW7];exact heap_alloc_new _ _
            have hs7:W7.heap.size=F.heap.size+1:=by rw[hW7];simp
            have hs6:=HC6'.out.size;have HC7':=Hh (HC6'.out.below H a4);have HB7:=Hh a4;have HR7:=Hh hr7;have bx:(F.alloc (.cells #[.int .i64 z, .slice none 0 0] 40)).cell? ⟨w.heap.size,0,none⟩=some (.pointer (some ⟨q,0,none⟩)):=by rw[<-hW7];exact HC7'.out.cells.2.2
            clear hg6 a1 O hW7 a4 hr7 hk1;go_wp2_with fail;rw[<-HW7.out];refine(iQ q 8192 _ _ HC7'.out.eye (by omega)).mono ?_;rintro e V ⟨hb8,hr8⟩;cases hg8:aT 8192 r6 with
            | err x=>
             rw[hg8]at hr8;obtain rfl:e=bK x:=hr8;have hN:N= .err x:=by rw[HNK6.out,hg8];rfl
             subst hN;have U:=Hh (HC7'.out.but.trans hb8);clear hg8 hb8 bx;go_wp2;exact⟨rfl,U.out,rfl⟩
            | ok v r8'=>
             rw[hg8]at hr8;obtain⟨⟨va,vc,rfl,hbv,hov⟩,heye8⟩:=hr8;have hv8:v.length<=8192:=(fD hg8).2;have HN8':=Hh (show N=(aJ (n-(k+1)) r8').bind fun l r'=> .ok ⟨3,t,a,u,o,false,p++(((z:Int),v)::l),[]⟩ r' from by rw[HNK6.out,hg8];rfl);have hrow8:=(hb8.block F.heap.size (by omega) (by omega)).trans HR7.out;have hs8:=hb8.size;have c1:V.cell? ⟨F.heap.size,1,none⟩=some (.slice none 0 0):=cell_of_row V F.heap.size 1 _ _ _ hrow8;have f1:V.frozen? ⟨F.heap.size,1,none⟩=false:=frozen_of_row _ _ _ _ _ hrow8;have HC8':=Hh (HC7'.out.step H hb8 heye8);obtain⟨X,hW9⟩:∃X,X=V.setCell ⟨F.heap.size,1,none⟩ (.slice va v.length vc):=⟨_,rfl⟩
             have hs9:X.heap.size=V.heap.size:=by rw[hW9];simp
             have hb9:Below F.heap.size V X:=by rw[hW9];exact(Below.refl _ _).setCell (by simp) _
             have ho9:∀j,j≠F.heap.size->X.heap[j]? =V.heap[j]? :=fun j hj=>by rw[hW9];exact Below.heap_setCell _ _ _ j hj
             have hr9:X.heap[F.heap.size]? =some (.cells #[.int .i64 z, .slice va v.length vc] 40 (0,0)):=by rw[hW9];have h9:=heap_setCell_same V F.heap.size 1 _ _ (.slice va v.length vc) hrow8;simpa using h9
             have HLN9:=Hh (show gW (w.heap.size+2) X ⟨3,t,a,u,o,false,p,[]⟩ la lc ms none 0 from HC6'.out.own.moved fun j h1 h2=>(ho9 j (by omega)).trans ((hb8.block j (by omega) (by omega)).trans (HB7.out.block j h2)));have HC9:=Hh (show Lk w q X r8' ⟨3,t,a,u,o,false,p,[]⟩ la lc ms none 0 from HC8'.out.turn H (hb9.mono (by omega)) ((ho9 _ (by omega)).trans HC8'.out.row) HLN9.out);have HOV9:=Hh (jv hov (w':=X) fun g cur hg _=>ho9 g (by have:=(own_lt hov hg).1;omega));obtain⟨W10,hW10⟩:∃W10,W10=X.alloc (.cells #[.int .i64 z, .slice va v.length vc] 40):=⟨_,rfl⟩
             have hb10:Below X.heap.size X W10:=by rw[hW10];exact(Below.refl _ _).alloc (Nat.le_refl _) _
             have hs10:W10.heap.size=X.heap.size+1:=by rw[hW10];simp
             have HSI:=Hh (show SlAt W10 W10.heap.size 2 (some ⟨V.heap.size,0,none⟩) 1 1 [.int .i64 z, .slice va v.length vc] from by rw[hs10,hW10,<-hs9];exact cw X #[.int .i64 z, .slice va v.length vc] 40 2 rfl)
             have HC10:=Hh (HC9.out.below H hb10);have e0:(V.setCell ⟨F.heap.size,1,none⟩ (.slice va v.length vc)).cell? ⟨F.heap.size,0,none⟩=some (.int .i64 z):=by rw[<-hW9];exact cell_of_row X F.heap.size 0 _ _ _ hr9
             have e1:(V.setCell ⟨F.heap.size,1,none⟩ (.slice va v.length vc)).cell? ⟨F.heap.size,1,none⟩=some (.slice va v.length vc):=by rw[<-hW9];exact cell_of_row X F.heap.size 1 _ _ _ hr9
             have e6:(V.setCell ⟨F.heap.size,1,none⟩ (.slice va v.length vc)).cell? ⟨w.heap.size+1,6,none⟩=some (.slice la ms.length lc):=by rw[<-hW9];exact HC9.out.cells.1.2.2.2.2.2.2.1
             have HW9:=Hh hW9;have HW10:=Hh hW10;have HB10:=Hh hb10;have hs9a:X.heap.size<=V.heap.size:=by omega
             have hs9b:V.heap.size<=X.heap.size:=by omega
             have hs10a:W10.heap.size<=X.heap.size+1:=by omega
             have hs10b:X.heap.size+1<=W10.heap.size:=by omega
             clear hg8 hb8 hbv hov heye8 hrow8 bx hb9 ho9 hr9 hW9 hW10 hb10 hs9 hs10;go_wp2_with (at_builtin;(rw[<-HW9.out,<-HW10.out]);go_must (refine bU _ rfl (.tmp 58) (.tmp 60) 30 rfl (w.heap.size+2) 40 i0 (.agg #[.int .i64 0, .slice none 0 0]) 2 32 Tryz.underlying30 hi hz0 hz1 hz2 rfl (by decide) (.slice la ms.length lc) ms.length (aK ms) rfl HC10.out.own.own W10.heap.size (some ⟨V.heap.size,0,none⟩) 1 1 [.int .i64 z, .slice va v.length vc] rfl HSI.out (by intro u hu;simp at hu;rcases hu with rfl | rfl<;>rfl) (by unfold maxLen;omega) (by omega) (by omega) ?_);intro a11 c11 W11 o11 g11 _;have hfar:∀j,j<w.heap.size+2->W11.heap[j]? =W10.heap[j]? :=fun j hj=>g11.block j (by omega) (fun e=>by have:=(own_lt HC10.out.own.own e.symm).1;omega);have e6:W11.cell? ⟨w.heap.size+1,6,none⟩=some (.slice la ms.length lc):=(World.cell?_of_block (a:=⟨w.heap.size+1,6,none⟩) (hfar (w.heap.size+1) (by omega))).trans HC10.out.cells.1.2.2.2.2.2.2.1;have f6:W11.frozen? ⟨w.heap.size+1,6,none⟩=false:=frozen_of_row _ _ _ _ _ ((hfar (w.heap.size+1) (by omega)).trans HC10.out.row));have hb11:Below (w.heap.size+2) W10 W11:=⟨g11.os,g11.tape,g11.output,g11.size,hfar⟩
             have h9:=heap_setCell_same W11 (w.heap.size+1) 6 _ _ (.slice a11 (ms.length+1) c11) ((hfar (w.heap.size+1) (by omega)).trans HC10.out.row);obtain⟨W12,hW12⟩:∃W12,W12=W11.setCell ⟨w.heap.size+1,6,none⟩ (.slice a11 (ms.length+1) c11):=⟨_,rfl⟩
             rw[<-hW12]at h9;have hb12:Below (w.heap.size+1) W11 W12:=by rw[hW12];exact(Below.refl _ _).setCell (by simp) _
             have ho12:∀j,j≠w.heap.size+1->W12.heap[j]? =W11.heap[j]? :=fun j hj=>by rw[hW12];exact Below.heap_setCell _ _ _ j hj
             have hbyt:∀(m:af) (B:Nat),w.heap.size+2<=B->X.ownsRow B 5 1 (.slice m.a m.n m.c) m.n (m.b.map bv)->W12.ownsRow (w.heap.size+2) 5 1 (.slice m.a m.n m.c) m.n (m.b.map bv):=fun m B hB h9=>by refine World.ownsRow.mono (jv h9 fun g cur hg hc=> ?_) hB;have h8:=own_lt h9 hg;refine(ho12 g (by omega)).trans ((g11.block g (by omega) (fun e=> ?_)).trans (HB10.out.block g (by omega)));obtain⟨cur',h7⟩:=fz HC9.out.own.own e.symm;exact xS h7 hc cV.2.1
             have HC12:=Hh (show Lk w q W12 r8' ⟨3,t,a,u,o,false,p++ [((z:Int),v)],[]⟩ a11 c11 (ms++ [⟨z,va,v.length,vc,v⟩]) none 0 from by
              refine HC10.out.turn H ((hb11.mono (by omega)).trans hb12) ?_ ⟨?_,by simp[HC9.out.own.its],fun m hm=> ?_,⟨rfl, .inl ⟨rfl,rfl⟩⟩,by simp⟩
              ·rw[h9];simp
              ·rw[dO];rw[show(ms++ [(⟨z,va,v.length,vc,v⟩:af)]).length=ms.length+1 by simp];exact jv o11 fun g cur hg _=>ho12 g (by have:=(own_lt o11 hg).1;omega)
              ·simp only[List.mem_append,List.mem_singleton]at hm;rcases hm with hm | rfl
               ·exact⟨(HC9.out.own.bs m hm).1,hbyt m _ (Nat.le_refl _) (HC9.out.own.bs m hm).2⟩
               ·exact⟨hv8,hbyt ⟨z,va,v.length,vc,v⟩ W7.heap.size (by omega) HOV9.out⟩)
             have HNN:=Hh (show N=((aJ (n-(k+1)) r8').bind fun l r'=> .ok ⟨3,t,a,u,o,false,(p++ [((z:Int),v)])++l,[]⟩ r') from by
              rw[HN8'.out]
              congr 1
              funext l r'
              simp)
             have HMK2:=Hh (show(ms++ [(⟨z,va,v.length,vc,v⟩:af)]).length=k+1 by simp[HMK.out]);rw[hW12]at HC12;clear hb11 h9 hW12 hb12 ho12 hbyt hfar;go_roundw
             case rel=>exact⟨k+1,r8',p++ [((z:Int),v)],a11,c11,ms++ [⟨z,va,v.length,vc,v⟩],by go_num,hkn,HMK2.out,HNN.out,HC12.out⟩
             case measure=>simp[intOf];omega
          ·have tk:decide ((k:Int)<(n:Int))=false:=by simpa using hkn
           have hke:k=n:=by omega
           subst hke;have hN:N= .ok ⟨3,t,a,u,o,false,p,[]⟩ r:=by rw[HNK.out,Nat.sub_self];simp[aJ]
           subst hN;have D:=HCK;clear hkn;obtain⟨⟨c0,c1,c2,c3,c4,c5,c6,c7⟩,S, -⟩:=HCK.out.cells;clear S;go_wp2_with (refine aI rfl 32 (.tmp 2) (.tmp 87) rfl (w.heap.size+1) _ rfl rfl 32 _ (D.out.row) aR rfl (by simp[Value.oneCell']) ?_;intro X d L hb9 hs9);have hsF:=D.out.size;have M:=Hh (D.out.turn H (W':=X) (hb9) d (D.out.own.moved fun k h1 h2=>L k (by omega)));refine bodyPost_ret (results_cell_row rfl _ _ (w.heap.size+1) 32 _ (0,0) _ rfl d Tryz.underlying32 rfl aR) rfl ?_;exact⟨M.out.but,la,lc,ms,none,0,rfl,M.out.eye,M.out.own.mono (by omega)⟩
    ·have a3:=Hh (show N=(ak 1 R).bind fun y J=>(ak 1099511627776 J).bind fun a i=>(ak 1099511627776 i).bind fun o G=> .ok ⟨4,t,a,0,o,y==1,[],[]⟩ G from HN2.out);have bx3:=s.out.cells.2.2;go_wp2_with fail;clear bx3;clear c0 c1 f1 bx;obtain⟨w3,Y⟩:∃W,W=w2.setCell ⟨w.heap.size+1,1,none⟩ (.int .i64 t):=⟨_,rfl⟩
     rw[<-Y]at s ⊢;clear Y;refine(dK q 1 R _ s.out.eye).mono ?_;rintro e w4 ⟨C,A⟩;cases hg4:ak 1 R with
     | err x=>
      rw[hg4]at A;obtain rfl:e=bK x:=A;have hN:N= .err x:=by rw[a3.out,hg4];rfl
      subst hN;have U:=Hh (s.out.but.trans C);clear hg4 C;go_wp2;exact⟨rfl,U.out,rfl⟩
     | ok y i=>
      rw[hg4]at A;obtain⟨rfl,f⟩:=A;have hm4:=az hg4;have HN4:=Hh (show N=(ak 1099511627776 i).bind fun a i=>(ak 1099511627776 i).bind fun o G=> .ok ⟨4,t,a,0,o,y==1,[],[]⟩ G by rw[a3.out,hg4];rfl);have I:=Hh (s.out.step H C f);clear hg4 C f;have ty:((y:Int)==1)=(y==1):=by rw[Bool.eq_iff_iff];simp;omega
      have T:=Hh (I.out.set H 5 (.bool (y==1)) (v':=⟨4,t,0,0,0,y==1,[],[]⟩) rfl rfl rfl);have HN5:=HN4;obtain⟨⟨-, -, -, -, -,c5, -, -⟩,S,bx⟩:=I.out.cells;have f5:=S 5;clear S;go_wp2_with fail;clear c5 f5 bx;obtain⟨w5,hw5⟩:∃W,W=w4.setCell ⟨w.heap.size+1,5,none⟩ (.bool (y==1)):=⟨_,rfl⟩
      rw[<-hw5]at T ⊢;clear hw5;refine(gu q w.heap.size i _ T.out.eye T.out.box).mono ?_;rintro e w6 ⟨a1,Z⟩;cases hg6:ak 1099511627776 i with
      | err x=>
       rw[hg6]at Z;obtain rfl:e=bK x:=Z;have hN:N= .err x:=by rw[HN5.out,hg6];rfl
       subst hN;have U:=Hh (T.out.but.trans a1);clear hg6 a1;go_wp2;exact⟨rfl,U.out,rfl⟩
      | ok a r6=>
       rw[hg6]at Z;obtain⟨rfl,O⟩:=Z;have hm6:=az hg6;have HN6:=Hh (show N=(ak 1099511627776 r6).bind fun o G=> .ok ⟨4,t,a,0,o,y==1,[],[]⟩ G by rw[HN5.out,hg6];rfl);have a5:=Hh (T.out.step H a1 O);clear hg6 a1 O;go_wp2_with fail;refine(gu q w.heap.size r6 _ a5.out.eye a5.out.box).mono ?_;rintro e w7 ⟨a4,hr7⟩;cases hg7:ak 1099511627776 r6 with
       | err x=>
        rw[hg7]at hr7;obtain rfl:e=bK x:=hr7;have hN:N= .err x:=by rw[HN6.out,hg7];rfl
        subst hN;have U:=Hh (a5.out.but.trans a4);clear hg7 a4;go_wp2;exact⟨rfl,U.out,rfl⟩
       | ok o r7=>rw[hg7]at hr7;obtain⟨rfl,heye7⟩:=hr7;have hm7:=az hg7;have HN7:=Hh (show N=(.ok ⟨4,t,a,0,o,y==1,[],[]⟩ r7:bO ax) by rw[HN6.out,hg7];rfl);have HC7:=Hh (a5.out.step H a4 heye7);clear hg7 a4 heye7;have D:=Hh ((HC7.out.set H 2 (.int .i64 a) (v':=⟨4,t,a,0,0,y==1,[],[]⟩) rfl rfl rfl).set H 4 (.int .i64 o) (v':=⟨4,t,a,0,o,y==1,[],[]⟩) rfl rfl rfl);have hN:=HN7.out;subst hN;obtain⟨⟨c0,c1,c2,c3,c4,c5,c6,c7⟩,S, -⟩:=HC7.out.cells;have f2:=S 2;have f4:=S 4;clear S;go_wp2_with (refine aI rfl 32 (.tmp 2) (.tmp 87) rfl (w.heap.size+1) _ rfl rfl 32 _ (D.out.row) aR rfl (by simp[Value.oneCell']) ?_;intro X d L hb9 hs9);have hsF:=D.out.size;have M:=Hh (D.out.turn H (W':=X) (hb9) d (D.out.own.moved fun k h1 h2=>L k (by omega)));refine bodyPost_ret (results_cell_row rfl _ _ (w.heap.size+1) 32 _ (0,0) _ rfl d Tryz.underlying32 rfl aR) rfl ?_;exact⟨M.out.but,none,0,([]:List af),none,0,rfl,M.out.eye,M.out.own.mono (by omega)⟩
    ·have a3:=Hh (show N=(ak 1099511627776 R).bind fun a J=>(ak 1099511627776 J).bind fun u i=>(aT 65536 i).bind fun b G=> .ok ⟨5,t,a,u,0,false,[],b⟩ G from HN2.out);go_wp2_with fail;clear c0 c1 f1 bx;obtain⟨w3,Y⟩:∃W,W=w2.setCell ⟨w.heap.size+1,1,none⟩ (.int .i64 t):=⟨_,rfl⟩
     rw[<-Y]at s ⊢;clear Y;refine(gu q w.heap.size R _ s.out.eye s.out.box).mono ?_;rintro e w4 ⟨C,A⟩;cases hg4:ak 1099511627776 R with
     | err x=>
      rw[hg4]at A;obtain rfl:e=bK x:=A;have hN:N= .err x:=by rw[a3.out,hg4];rfl
      subst hN;have U:=Hh (s.out.but.trans C);clear hg4 C;go_wp2;exact⟨rfl,U.out,rfl⟩
     | ok a i=>
      rw[hg4]at A;obtain⟨rfl,f⟩:=A;have hm4:=az hg4;have HN4:=Hh (show N=(ak 1099511627776 i).bind fun u i=>(aT 65536 i).bind fun b G=> .ok ⟨5,t,a,u,0,false,[],b⟩ G by rw[a3.out,hg4];rfl);have I:=Hh (s.out.step H C f);clear hg4 C f;go_wp2_with fail;refine(im q w.heap.size i _ I.out.eye I.out.box).mono ?_;rintro e w5 ⟨a2,a0⟩;cases hg5:ak 1099511627776 i with
      | err x=>
       rw[hg5]at a0;obtain rfl:e=bK x:=a0;have hN:N= .err x:=by rw[HN4.out,hg5];rfl
       subst hN;have U:=Hh (I.out.but.trans a2);clear hg5 a2;go_wp2;exact⟨rfl,U.out,rfl⟩
      | ok u G=>
       rw[hg5]at a0;obtain⟨rfl,P⟩:=a0;have hm5:=az hg5;have HN5:=Hh (show N=(aT 65536 G).bind fun b G=> .ok ⟨5,t,a,u,0,false,[],b⟩ G by rw[HN4.out,hg5];rfl);have T:=Hh (I.out.step H a2 P);clear hg5 a2 P;have a5:=Hh ((T.out.set H 2 (.int .i64 a) (v':=⟨5,t,a,0,0,false,[],[]⟩) rfl rfl rfl).set H 3 (.int .i64 u) (v':=⟨5,t,a,u,0,false,[],[]⟩) rfl rfl rfl);obtain⟨⟨-, -,c2,c3, -, -, -, -⟩,S,bx⟩:=T.out.cells;have f2:=S 2;have f3:=S 3;clear S;go_wp2_with fail;clear c2 c3 f2 f3 bx;obtain⟨w6,hw6⟩:∃W,W=(w5.setCell ⟨w.heap.size+1,2,none⟩ (.int .i64 a)).setCell ⟨w.heap.size+1,3,none⟩ (.int .i64 u):=⟨_,rfl⟩
       rw[<-hw6]at a5 ⊢;clear hw6;refine(iQ q 65536 G _ a5.out.eye (by omega)).mono ?_;rintro e w7 ⟨a4,hr7⟩;cases hg7:aT 65536 G with
       | err x=>
        rw[hg7]at hr7;obtain rfl:e=bK x:=hr7;have hN:N= .err x:=by rw[HN5.out,hg7];rfl
        subst hN;have U:=Hh (a5.out.but.trans a4);clear hg7 a4;go_wp2;exact⟨rfl,U.out,rfl⟩
       | ok b r7=>
        rw[hg7]at hr7;obtain⟨⟨va,vc,rfl,hbv,hov⟩,heye7⟩:=hr7;have hv7:b.length<=65536:=(fD hg7).2;have hN:N= .ok ⟨5,t,a,u,0,false,[],b⟩ r7:=by rw[HN5.out,hg7];rfl
        subst hN;have hs6:=a5.out.size;have HC7:=Hh (a5.out.step H a4 heye7);have h9:=heap_setCell_same w7 (w.heap.size+1) 7 _ _ (.slice va b.length vc) HC7.out.row;have HOV:=Hh (World.ownsRow.mono (jv hov (w':=w7.setCell ⟨w.heap.size+1,7,none⟩ (.slice va b.length vc)) fun g cur hg _=>Below.heap_setCell _ _ _ g (by have:=(own_lt hov hg).1;show g≠w.heap.size+1;omega)) (show w.heap.size+2<=w6.heap.size from hs6));have HO7:=Hh (HC7.out.own.moved (W':=w7.setCell ⟨w.heap.size+1,7,none⟩ (.slice va b.length vc)) fun k h1 h2=>Below.heap_setCell _ _ _ k (by show k≠w.heap.size+1;omega));have D:=Hh (HC7.out.turn H (W':=w7.setCell ⟨w.heap.size+1,7,none⟩ (.slice va b.length vc)) (v':=⟨5,t,a,u,0,false,[],b⟩) (ia':=none) (ic':=0) (ms':= []) (ba':=va) (bc':=vc) ((Below.refl _ _).setCell (by simp) _) (by rw[h9];rfl) ⟨HO7.out.own,rfl,by simp,HOV.out,hv7⟩);clear hg7 a4 heye7 hbv hov h9;obtain⟨⟨c0,c1,c2,c3,c4,c5,c6,c7⟩,S, -⟩:=HC7.out.cells;have f7:=S 7;clear S;go_wp2_with (refine aI rfl 32 (.tmp 2) (.tmp 87) rfl (w.heap.size+1) _ rfl rfl 32 _ (D.out.row) aR rfl (by simp[Value.oneCell']) ?_;intro X d L hb9 hs9);have hsF:=D.out.size;have M:=Hh (D.out.turn H (W':=X) (hb9) d (D.out.own.moved fun k h1 h2=>L k (by omega)));refine bodyPost_ret (results_cell_row rfl _ _ (w.heap.size+1) 32 _ (0,0) _ rfl d Tryz.underlying32 rfl aR) rfl ?_;exact⟨M.out.but,none,0,([]:List af),va,vc,rfl,M.out.eye,M.out.own.mono (by omega)⟩
def mW:bO ax->Int×Option ax
 | .err x=>(x,none)
 | .ok v rest=>if rest= [] then(0,some v) else(3,none)
def tN(o:Int×Option ax)(w:World)(e:Ending)(w':World):Prop:=
 Below w.heap.size w w'/\match o.2 with
  | none=>e= .returned (.tuple #[.agg (aF sT none 0 0 none 0), .int .i64 o.1])
  | some v=>∃c b a ba d,e= .returned (.tuple #[.agg (aF v c (List.length a) b ba d), .int .i64 o.1])/\gW w.heap.size w' v c b a ba d
theorem vH{w:World}{base:Nat}{a:Option Addr}{n c:Nat}{cs:List Value}{ms:List af}(h:w.ownsRow base 40 2 (.slice a n c) n cs)(hn:ms.length=n)(hc:cs=aK ms)(hb:∀m∈ms,m.Bs w w.heap.size):bd w w.heap.size a ms.length c ms:=by subst hn hc;obtain⟨a',d,e,b⟩:=SlAt.ofOwns h;injection e with e1 _ e2;subst e1 e2;exact⟨b,hb⟩
theorem gW.letAt{N:Nat}{W:World}{v:ax}{f:Option Addr}{d:Nat}{ms:List af}{ba:Option Addr}{j:Nat}(h:gW N W v f d ms ba j):fo W W.heap.size v f d ms ba j:=by
 have g:∀(a:Option Addr) (n c:Nat) (l:List UInt8),n<=140737488355328->W.ownsRow N 5 1 (.slice a n c) n (l.map bv)->l.length=n->aM W W.heap.size a n c l:=fun a n c l o k q=>by subst q;obtain⟨a',w,e,r⟩:=dG k o;injection e with e1 _ e2;subst e1;subst e2;exact r
 refine⟨vH h.own rfl rfl fun m p=> ?_,h.its,g _ _ _ _ (by have:=h.bl;omega) h.b rfl⟩;obtain⟨t,i⟩:=h.bs m p;have s:=i.1;exact g _ _ _ _ (by omega) i (by simpa using s)
abbrev oB:Array Value:=#[.int .i64 0, .int .i64 0, .int .i64 0, .int .i64 0, .int .i64 0, .bool false, .slice none 0 0, .slice none 0 0]
theorem qS(q p:Nat)(l:List UInt8)(w:World)(h:bF w q l)(hp:w.heap[p]? =some (.cells (aF sT none 0 0 none 0) 32 (0,0)))(hqp:q≠p):
  Calls Tryz.prog 118 #[.pointer (some ⟨q,0,none⟩), .pointer (some ⟨p,0,none⟩)] w fun e w'=>fw q p (fd l) w w' e fun v=>∃ia ic ms ba bc,w'.heap[p]? =some (.cells (aF v ia (List.length ms) ic ba bc) 32 (0,0))/\gW w.heap.size w' v ia ic ms ba bc:=by
 obtain⟨N,hN⟩:∃N,N=fd l:=⟨_,rfl⟩
 rw[<-hN];have L:=Hh hN;have n:p<w.heap.size:=(Array.getElem?_eq_some_iff.1 hp).1;have I:=Hh hp;clear hN hp;go_enter Tryz.func118,Tryz.ntmps118
 go_wp2_with fail;refine(sr q l w h).mono ?_;rintro e M ⟨c,i⟩;rw[<-L.out]at i;have m:=Hh c;have s:=Hh ((c.block p n hqp.symm).trans I.out);have B:=c.size;clear c;cases N with
 | err x=>obtain rfl:e=bK x:=i;go_wp2;exact⟨rfl,fw.of_but m.out⟩
 | ok v rest=>
  obtain⟨ia,ic,ms,ba,bc,rfl,f,d⟩:=i;have HE:=Hh f;have J:=Hh d;clear f d;go_wp2_with (refine aI rfl 32 (.tmp 1) (.tmp 4) rfl p _ rfl rfl 32 _ s.out aR rfl (by simp[Value.oneCell']) ?_;intro H g b j A);go_end0;have o:l9 H q rest.length:=by obtain⟨C,G,F,z⟩:=HE.out.len;exact⟨by omega,G,F,(World.cell?_of_block (a:=⟨q,0,none⟩) (b q hqp)).trans z⟩
  exact⟨j.os.trans m.out.os,j.tape.trans m.out.tape,j.output.trans m.out.output,by omega,fun k y t D=>(b k D).trans (m.out.block k y t),(fun x r=>by cases r),
   (fun O P r=>by cases r;exact⟨rfl,o,ia,ic,ms,ba,bc,g,J.out.moved fun k y t=>b k (by omega)⟩)⟩
theorem sm(l:List UInt8)(a:Option Addr)(n c:Nat)(w:World)(h:aM w w.heap.size a n c l):
  Calls Tryz.prog 99 #[.slice a n c] w (tN (mW (fd l)) w):=by
 obtain⟨R,i⟩:∃R,R=fd l:=⟨_,rfl⟩
 have b:=v8 l;rw[<-i]at b ⊢;have HR:=Hh i;have HS:=Hh b;have H:=Hh h;obtain⟨m,f⟩:∃m,m=(w.alloc (.cells oB 32)).alloc (.cells oB 32):=⟨_,rfl⟩
 have P:=Hh f;have hs1:m.heap.size=w.heap.size+2:=by rw[f];simp
 have r:=Hh (show Below w.heap.size w m by rw[f];exact((Below.refl _ _).alloc (Nat.le_refl _) _).alloc (by simp) _);have T:=Hh (show m.heap[w.heap.size]? =some (.cells (aF sT none 0 0 none 0) 32 (0,0)) by rw[f];exact(((Below.refl _ _).alloc (Nat.le_refl (w.alloc (.cells oB 32)).heap.size) _).block _ (by simp)).trans (heap_alloc_new w _))
 have S:=Hh (show m.heap[w.heap.size+1]? =some (.cells oB 32 (0,0)) by rw[f];have D:=heap_alloc_new (w.alloc (.cells oB 32)) (.cells oB 32);simpa using D)
 clear i b h f;go_enter Tryz.func99,Tryz.ntmps99
 go_wp2_with fail;rw[<-P.out];refine(lH R HS.out l a n c 118 (iR Tryz.func118 (by kernel_rfl) rfl) #[] #[.pointer (some ⟨w.heap.size+1,0,none⟩)] (w.heap.size+1) m (by omega) ((H.out.below r.out (Nat.le_refl _)).mono r.out.size)
  (fun s w' v=>∃z y t ba A,w'.heap[w.heap.size+1]? =some (.cells (aF v z (List.length t) y ba A) 32 (0,0))/\gW s.heap.size w' v z y t ba A) ?_).mono ?_
 ·intro q s hb hq he;show Calls _ 118 #[.pointer (some ⟨q,0,none⟩), .pointer (some ⟨w.heap.size+1,0,none⟩)] s _;rw[HR.out];have hs:=hb.size;exact qS q (w.heap.size+1) l s he ((hb.block _ (by omega)).trans S.out) (by omega)
 ·rintro e J ⟨rfl,M,B⟩;have I:=Hh (show Below w.heap.size w J from r.out.trans ((Below.refl _ m).grown M (by omega) (fun k e=>by cases e;omega)));have hs2:=M.size;have U:=Hh B;have G:=Hh (show J.heap[w.heap.size]? =some (.cells (aF sT none 0 0 none 0) 32 (0,0)) from(M.block w.heap.size (by omega) (by simp)).trans T.out);clear M B;by_cases o:∃v,R= .ok v []
  ·obtain⟨v,L⟩:=o;obtain⟨s,w',rb,k1,k2,k3,Z,⟨z,y,t,ba,A,Y,X⟩,N⟩:=U.out v L;have k8:=Z.size;have F:=Hh (show J.heap[w.heap.size+1]? =some (.cells (aF v z t.length y ba A) 32 (0,0)) from(N.block _ (by omega) (by omega)).trans Y);have W:=Hh (show gW s.heap.size J v z y t ba A from X.moved fun j h1 h2=>N.block j h2 (by omega));have o:R.code=0:=by rw[L];rfl
   have t1:(R.code !=0)=false:=by simp[o]
   have V:=Hh (show mW R=(0,some v) by rw[L];rfl);obtain⟨c0,c1,c2,c3,c4,c5,c6,c7⟩:=aq F.out;clear o L Z Y X N;go_wp2_with (refine aI rfl 32 (.tmp 2) (.tmp 13) rfl w.heap.size _ rfl rfl 32 _ G.out aR rfl (by simp[Value.oneCell']) ?_;intro W9 d g p O);refine bodyPost_ret (dd rfl _ _ w.heap.size 32 _ (0,0) _ rfl d Tryz.underlying32 rfl aR) rfl ?_;unfold tN;rw[V.out];refine⟨I.out.trans p,z,y,t,ba,A,rfl,?_⟩;exact(W.out.moved fun k h1 h2=>g k (by omega)).mono (by omega)
  ·have C:R.code≠0:=by
    cases i:R with
    | err x=>exact HS.out x i
    | ok v rest=>
     simp only[bO.code];split
     ·rename_i D;exact absurd ⟨v,by rw[i,D]⟩ o
     ·decide
   have V:=Hh (show mW R=(R.code,none) by
    cases i:R with
    | err x=>rfl
    | ok v rest=>
     simp only[bO.code,mW];split
     ·rename_i D;exact absurd ⟨v,by rw[i,D]⟩ o
     ·rfl)
   have t1:(R.code !=0)=true:=by simpa using C
   clear o C;go_wp2_with (refine aI rfl 32 (.tmp 2) (.tmp 11) rfl w.heap.size _ rfl rfl 32 _ G.out aR rfl (by simp[Value.oneCell']) ?_;intro W9 d g p O);refine bodyPost_ret (dd rfl _ _ w.heap.size 32 _ (0,0) _ rfl d Tryz.underlying32 rfl aR) rfl ?_;unfold tN;rw[V.out];exact⟨I.out.trans p,rfl⟩
end Go.Proofs.YtogcnfhmcpkdcaaGreat
