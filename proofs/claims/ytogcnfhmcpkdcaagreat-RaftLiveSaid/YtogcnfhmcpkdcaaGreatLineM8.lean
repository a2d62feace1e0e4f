/-
Contracts of Line.Copy, Line.Drop and Line.Item.
-/
import Derived.Test.YtogcnfhmcpkdcaaGreatLineM9
set_option maxRecDepth 100000
set_option maxHeartbeats 1000000
namespace Go.Proofs.YtogcnfhmcpkdcaaGreat
open Go.RowKit
set_option linter.unusedVariables false
set_option linter.unusedSimpArgs false
structure yG (p:Nat) (b t:Int) (la:Option Addr) (n lc:Nat) (w':World):Prop where
 g0:w'.cell? ⟨p,0,none⟩=some (.int .i64 b)
 g1:w'.cell? ⟨p,1,none⟩=some (.int .i64 t)
 g2:w'.cell? ⟨p,2,none⟩=some (.slice la n lc)
theorem yG.keep{p:Nat}{b t:Int}{la:Option Addr}{n lc:Nat}{w w':World}(h:yG p b t la n lc w){N:Nat}(a:Below N w w')(hp:p<N):yG p b t la n lc w':=⟨(a.cell (p:=⟨p,_,none⟩) hp).trans h.g0,(a.cell (p:=⟨p,_,none⟩) hp).trans h.g1,(a.cell (p:=⟨p,_,none⟩) hp).trans h.g2⟩
theorem bS.lnS{w:World}{base p:Nat}{x:ae}{la:Option Addr}{lc:Nat}{ms:List af}(h:cE w base p x la lc ms):yG p x.base x.term la ms.length lc w:=⟨h.cells.1,h.cells.2.1,h.cells.2.2.1⟩
theorem bS.rebase{A:World}{base p:Nat}{x:ae}{la:Option Addr}{lc:Nat}{ms:List af}(h:cE A base p x la lc ms)(b t:Int):
  cE ((A.setCell ⟨p,0,none⟩ (.int .i64 b)).setCell ⟨p,1,none⟩ (.int .i64 t)) base p ⟨b,t,x.l⟩ la lc ms/\∀k,k≠p->((A.setCell ⟨p,0,none⟩ (.int .i64 b)).setCell ⟨p,1,none⟩ (.int .i64 t)).heap[k]? =A.heap[k]? :=by
 have g:=h.far cV.1;have a:∀k,k≠p->((A.setCell ⟨p,0,none⟩ (.int .i64 b)).setCell ⟨p,1,none⟩ (.int .i64 t)).heap[k]? =A.heap[k]? :=fun k d=>(Below.heap_setCell _ _ _ k d).trans (Below.heap_setCell _ _ _ k d)
 have m:=heap_setCell_same A p 0 _ _ (.int .i64 b) h.row;have i:=heap_setCell_same _ p 1 _ _ (.int .i64 t) m;refine⟨⟨?_,?_,h.its,fun y j=>(h.bs y j).grown (T:=5) (fun k n fr d f=>a k (fun e=> ?_)) (by simp),h.pb⟩,a⟩
 ·rw[i];rfl
 ·exact World.ownsRow.kept h.own (row:=some p) ⟨rfl,rfl,rfl,by simp,fun k d c=>a k (fun e=>c (by rw[e]))⟩ (.inr g)
 ·rw[e,h.row]at f;injection f with f;injection f with _ e2 _;exact cV.2.2 e2
theorem qR(base p:Nat)(x:ae)(hg:x.Good)(la:Option Addr)(lc:Nat)(ms:List af)(w:World)(h:cE w base p x la lc ms):
  Calls Tryz.prog 64 #[.pointer (some ⟨p,0,none⟩)] w fun e w'=>∃q la' lc',e= .returned (.pointer (some ⟨q,0,none⟩))/\cE w' w.heap.size q x la' lc' ms/\Below w.heap.size w w'/\w.heap.size<=q:=by
 have o:=h.lt;have B:=h.len;have C:=hg.n1;have z:ms.length<=100000:=by omega
 have H:=Hh h;clear h B C;go_enter Tryz.func64,Tryz.ntmps64
 go_wp2_with fail;refine fx (S:=yG p x.base x.term la ms.length lc) ?_;have a:yG p x.base x.term la ms.length lc w.drew:=H.out.lnS.keep (N:=w.heap.size) (Below.refl _ _).drew o;refine hT 0 3 a ?_;refine hT 1 4 a ?_;refine hT 2 5 a ?_;refine hT 3 6 a ?_;refine hT 4 7 a ?_;refine hT 5 8 a ?_;refine hT 6 9 a ?_;refine hT 7 10 a ?_;refine hT 8 11 a ?_;refine hT 9 12 a ?_;refine hT 10 13 a ?_;refine hT 11 14 a ?_;refine bp 12 ?_;go_simp;have r:Below w.heap.size w w.drew:=(Below.refl _ _).drew;refine(jL (aK ms) (jN _) la ms.length lc z _ (H.out.below r).sl.sl).mono ?_;rintro e f ⟨a',l,rfl,g,y⟩;have c:Below w.heap.size w f:=r.trans y;have k:=Hh (H.out.below c);have v:=Hh c;have s:=Hh (show f.ownsRow w.heap.size 40 2 (.slice a' ms.length l) ms.length (aK ms) from g);have i:=c.size;have d:=k.out.lnS;refine⟨d,?_⟩;clear y c g r a;refine hT 13 16 d ?_;refine bp 14 ?_;go_simp;have b:Below f.heap.size f (f.alloc (.cells #[.int .i64 x.base, .int .i64 x.term, .slice a' ms.length l] 105)):=(Below.refl _ _).alloc (Nat.le_refl _) _;have j:=d.keep b (by omega);have n:=Hh (show cE (f.alloc (.cells #[.int .i64 x.base, .int .i64 x.term, .slice a' ms.length l] 105)) w.heap.size f.heap.size x a' l ms from⟨heap_alloc_new f _,s.out.alloc _,k.out.its,fun m A=>(k.out.bs m A).below b,i⟩);have t:=Hh (v.out.trans (b.mono i));refine⟨j,?_⟩;clear d b;refine hT 15 2 j ?_;refine dc ?_;clear j;go_wp2;go_ret;exact⟨_,a',l,rfl,n.out,t.out,i⟩
structure z8 (p:Nat) (b t:Int) (w':World):Prop where
 g0:w'.cell? ⟨p,0,none⟩=some (.int .i64 b)
 g1:w'.cell? ⟨p,1,none⟩=some (.int .i64 t)
theorem qQ(base p:Nat)(x:ae)(hg:x.Good)(la:Option Addr)(lc:Nat)(ms:List af)(i:Int)(w:World)(h:cE w base p x la lc ms)(hbase:base<=w.heap.size):
  Calls Tryz.prog 54 #[.pointer (some ⟨p,0,none⟩), .int .i64 i] w fun e w'=>e= .returned (.bool (x.drop i).2)/\dM base p (x.drop i).1 (Value.slice la ms.length lc).ownBlock w w':=by
 have hpl:=h.lt;have hl:=h.len;have h1:=hg.n1;have hb0:=hg.b0;have hb1:=hg.b1;have hn:ms.length<=100000:=by omega
 have r:=hg.tm_ge i;have o:x.last=x.base+(x.l.length:Int):=rfl;have H:=Hh h;by_cases O:0<=x.tm i
 ·have hE:x.drop i=(⟨i,x.tm i,x.l.drop (i-x.base).toNat⟩,true):=by rw[ae.drop,if_neg (by omega)]
  have hT:bk x i=(x.tm i,true):=by rw[bk,if_pos O]
  rw[hE];obtain⟨t,W⟩:∃t,x.tm i=t:=⟨_,rfl⟩
  rw[W]at hT ⊢;obtain⟨K,hK⟩:∃K:Nat,i-x.base=K:=⟨(i-x.base).toNat,by have:=r.1 O;omega⟩
  have hKn:K<=ms.length:=by have:=r.1 O;omega
  have a1:(i-x.base).toNat=K:=by omega
  rw[a1];have wK:IntKind.i64.wrap (K:Int)=K:=IntWalk.i64_in _ (by omega);have hK0:(0:Int)<=K:=by omega
  have hK1:(K:Int)<=(ms.length:Int):=by omega
  have HT:=Hh hT;obtain⟨A,hA⟩:∃A,(if lc=K then la else Option.map (fun x=>x.add (K*2)) la)=A:=⟨_,rfl⟩
  have J:bd w w.heap.size A (ms.length-K) (lc-K) (ms.drop K):=by have hf:=h.sl.from_ (k:=K) (by omega);rw[<-hA];exact hf
  have HITS:=Hh J;clear h hl h1 O r o hE hT W J a1;go_enter Tryz.func54,Tryz.ntmps54
  go_wp2_with fail;refine(dx base p x hg la lc ms i _ H.out).mono ?_;rintro e w1 ⟨rfl,m,rfl⟩;rw[HT.out];go_wp2_with fail;obtain⟨V,hV⟩:∃V,V=w.drewN m:=⟨_,rfl⟩
  rw[<-hV];have s:Below w.heap.size w V:=by rw[hV];exact below_drewN _ _
  have hsV:=s.size;have z:=Hh (H.out.below s);have q:=Hh s;have p2:=z.out.cells.2.2.1;clear hV s;refine fx (S:=z8 p x.base x.term) ?_;have a:z8 p x.base x.term V.drew:=⟨z.out.cells.1,z.out.cells.2.1⟩
  refine hT 0 15 a ?_;refine hT 1 16 a ?_;refine hT 2 17 a ?_;refine hT 3 18 a ?_;refine hT 5 20 a ?_;refine hT 6 21 a ?_;refine hT 7 22 a ?_;refine hT 8 23 a ?_;refine hT 9 24 a ?_;refine hT 10 25 a ?_;have HS0:=Hh a;clear a;refine bp 4 ?_;go_simp;refine⟨HS0.out,?_⟩;refine hT 11 26 HS0.out ?_;refine bp 12 ?_;go_simp;have Y:Below w.heap.size w V.drew:=q.out.trans (Below.refl _ _).drew;have L:Below V.heap.size V V.drew:=(Below.refl _ _).drew;refine(jL (aK (ms.drop K)) (jN _) A (ms.length-K) (lc-K) (by omega) _ ((HITS.out.below Y (Nat.le_refl _)).mono hsV).sl).mono ?_;rintro e C ⟨R,P,rfl,c,Z⟩;have d:Below V.heap.size V C:=L.trans Z;have hs6:=d.size;have b:=Hh (z.out.below d);have B:=Hh d;have y:z8 p x.base x.term C:=⟨b.out.cells.1,b.out.cells.2.1⟩
  have U:=b.out.cells.2.2.1;have f26:=b.out.cells.2.2.2 2;have j:∀g,(Value.slice R (ms.length-K) P).ownBlock=some g->V.heap.size<=g:=fun g e=>(own_lt c e).1
  have G:(Value.slice R (ms.length-K) P).ownBlock≠some p:=fun e=>by have h9:=j p e;omega
  obtain⟨n,F⟩:=b.out.put (n6:=ms.length-K) (ms6:=ms.drop K) (by simp) (World.ownsRow.mono c (show base<=V.heap.size by omega)) G (fun m hm=>b.out.bs m (List.mem_of_mem_drop hm));obtain⟨I,D⟩:=n.rebase i t;have HLT6:=Hh j;have f:=Hh n;have M:=Hh I;have HOT:=Hh (fun k (hk:k≠p)=>(D k hk).trans (F k hk));refine⟨y,?_⟩;clear Z d c G j n F I D Y L p2;refine hT 13 28 y ?_;refine hT 14 29 y ?_;refine bp 15 ?_;refine aj 30 (.tmp 29) (.tmp 27) rfl p 2 (.slice R (ms.length-K) P) _ rfl rfl rfl eI U f26 ?_;have a0:z8 p x.base x.term (C.setCell ⟨p,2,none⟩ (.slice R (ms.length-K) P)):=⟨f.out.cells.1,f.out.cells.2.1⟩
  refine⟨a0,dc ?_⟩;clear y U f26 a0;obtain⟨d0,d1, -,df⟩:=f.out.cells;obtain⟨T,v⟩:∃T,T=C.setCell ⟨p,2,none⟩ (.slice R (ms.length-K) P):=⟨_,rfl⟩
  rw[<-v]at d0 d1 df M HOT ⊢;have hs7:T.heap.size=C.heap.size:=by rw[v];simp
  have N:=Hh (show T.os=C.os/\T.tape=C.tape/\T.output=C.output by rw[v];exact⟨rfl,rfl,rfl⟩);clear v f;go_wp2;go_ret;refine⟨rfl,R,P,ms.drop K,?_,?_,?_⟩
  ·have h9:=M.out;rw[List.map_drop,b.out.its]at h9;exact h9
  ·refine⟨N.out.1.trans (B.out.os.trans q.out.os),N.out.2.1.trans (B.out.tape.trans q.out.tape),N.out.2.2.trans (B.out.output.trans q.out.output),by simp;omega,fun k hk hkp _=> ?_⟩;exact(HOT.out k hkp).trans ((B.out.block k (by omega)).trans (q.out.block k hk))
  ·intro g X;rw[show(ms.drop K).length=ms.length-K by simp]at X;have h9:=HLT6.out g X;exact .inr (by omega)
 ·have hE:x.drop i=(x,false):=by rw[ae.drop,if_pos (by omega)]
  have hT:bk x i=(0,false):=by rw[bk,if_neg O]
  rw[hE];have HT:=Hh hT;clear h hl h1 O r o hE hT;go_enter Tryz.func54,Tryz.ntmps54
  go_wp2_with fail;refine(dx base p x hg la lc ms i _ H.out).mono ?_;rintro e w1 ⟨rfl,m,rfl⟩;rw[HT.out];go_wp2;go_ret;exact⟨rfl,dM.same H.out (below_drewN _ _)⟩
structure yx (p b q:Nat) (bs:Int) (la:Option Addr) (n lc:Nat) (m:af) (w':World):Prop where
 g0:w'.cell? ⟨p,0,none⟩=some (.int .i64 bs)
 g2:w'.cell? ⟨p,2,none⟩=some (.slice la n lc)
 k0:w'.cell? ⟨b,q,none⟩=some (.int .i64 m.t)
 k1:w'.cell? ⟨b,q+1,none⟩=some (.slice m.a m.b.length m.c)
theorem yx.keep{p b q:Nat}{c:Int}{la:Option Addr}{n lc:Nat}{m:af}{w w':World}(h:yx p b q c la n lc m w){N:Nat}(a:Below N w w')(h1:p<N)(h2:b<N):yx p b q c la n lc m w':=⟨(a.cell (p:=⟨p,_,none⟩) h1).trans h.g0,(a.cell (p:=⟨p,_,none⟩) h1).trans h.g2,(a.cell (p:=⟨b,_,none⟩) h2).trans h.k0,(a.cell (p:=⟨b,_,none⟩) h2).trans h.k1⟩
def dH(x:ae)(i:Int)(w:World)(e:Ending)(w':World):Prop:=
 if x.base<i/\i<=x.last then ∃a' a,e= .returned (.tuple #[.agg #[.int .i64 (x.l.getD (i-x.base-1).toNat (0,[])).1, .slice a' (x.l.getD (i-x.base-1).toNat (0,[])).2.length a], .bool true])/\OwnBs 5 w' ⟨0,a',(x.l.getD (i-x.base-1).toNat (0,[])).2.length,a,(x.l.getD (i-x.base-1).toNat (0,[])).2⟩/\Below w.heap.size w w'
 else e= .returned (.tuple #[.agg #[.int .i64 0, .slice none 0 0], .bool false])/\Below w.heap.size w w'
theorem dH.no{x:ae}{i:Int}{w w':World}(h:¬(x.base<i/\i<=x.last))(hb:Below w.heap.size w w'):dH x i w (.returned (.tuple #[.agg #[.int .i64 0, .slice none 0 0], .bool false])) w':=by unfold dH;rw[if_neg h];exact⟨rfl,hb⟩
theorem dH.yes{x:ae}{i:Int}{w w':World}{m:ar}(h:x.base<i/\i<=x.last)(hm:x.l.getD (i-x.base-1).toNat (0,[])=m){a:Option Addr}{c:Nat}(b:OwnBs 5 w' ⟨0,a,m.2.length,c,m.2⟩)(hb:Below w.heap.size w w'):dH x i w (.returned (.tuple #[.agg #[.int .i64 m.1, .slice a m.2.length c], .bool true])) w':=by unfold dH;rw[if_pos h,hm];exact⟨a,c,rfl,b,hb⟩
theorem kP(base p:Nat)(x:ae)(hg:x.Good)(la:Option Addr)(lc:Nat)(ms:List af)(i:Int)(w:World)(h:cE w base p x la lc ms):
  Calls Tryz.prog 53 #[.pointer (some ⟨p,0,none⟩), .int .i64 i] w (dH x i w):=by
 have a0:=h.lt;have hl:=h.len;have h1:=hg.b0;have h2:=hg.b1;have h3:=hg.n1;have hn4:(ms.length:Int)<=4096:=by omega
 have r:x.last=x.base+(x.l.length:Int):=rfl;obtain⟨L,hL⟩:∃L,L=x.last:=⟨_,rfl⟩
 have HL:=Hh hL;obtain⟨y,f⟩:∃y,y=w.alloc (.cells #[.int .i64 0, .slice none 0 0] 40):=⟨_,rfl⟩
 have hs1:y.heap.size=w.heap.size+1:=by rw[f];simp
 have s:Below w.heap.size w y:=by rw[f];exact(Below.refl _ w).alloc (Nat.le_refl _) _
 have D:y.heap[w.heap.size]? =some (.cells #[.int .i64 0, .slice none 0 0] 40 (0,0)):=by rw[f];exact heap_alloc_new w _
 have T:=Hh f;have Y:=Hh s;have U:=Hh D;have H:=Hh h;have X:=Hh (h.below s);by_cases e0:i<=x.base
 ·have t0:decide (i<=x.base)=true:=by simpa using e0
  have W:=Hh (show ¬(x.base<i/\i<=x.last) by omega);obtain⟨c0, -, -, -⟩:=X.out.cells;rw[f]at c0;clear h hl r hL h3 e0 f s D;go_enter Tryz.func53,Tryz.ntmps53
  go_wp2_with (rw[<-T.out];refine aI rfl 40 (.tmp 4) (.tmp 18) rfl w.heap.size #[.int .i64 0, .slice none 0 0] rfl rfl 40 _ U.out cH rfl (by simp[Value.oneCell']) ?_;intro W5 q G M hs5);refine bodyPost_ret (dd rfl _ _ w.heap.size 40 _ (0,0) _ rfl q Tryz.underlying40 rfl cH) rfl ?_;exact dH.no W.out (Y.out.trans M)
 have t0:decide (i<=x.base)=false:=by simpa using e0
 by_cases e1:L<i
 ·have t1:decide (L<i)=true:=by simpa using e1
  have W:=Hh (show ¬(x.base<i/\i<=x.last) by omega);obtain⟨c0, -, -, -⟩:=X.out.cells;rw[f]at c0;clear h hl r hL h3 e0 e1 f s D;go_enter Tryz.func53,Tryz.ntmps53
  go_wp2_with fail;rw[<-T.out];refine(cC base p x hg la lc ms _ X.out).mono ?_;rintro e w3 ⟨rfl,F,rfl⟩;rw[<-HL.out];clear c0;have HR3:=Hh (show(y.drewN F).heap[w.heap.size]? =some (.cells #[.int .i64 0, .slice none 0 0] 40 (0,0)) from U.out);have HB3:=Hh (show Below w.heap.size w (y.drewN F) from Y.out.trans ((below_drewN y F).mono (by omega)));go_wp2_with (refine aI rfl 40 (.tmp 4) (.tmp 18) rfl w.heap.size #[.int .i64 0, .slice none 0 0] rfl rfl 40 _ HR3.out cH rfl (by simp[Value.oneCell']) ?_;intro W5 q G M hs5);refine bodyPost_ret (dd rfl _ _ w.heap.size 40 _ (0,0) _ rfl q Tryz.underlying40 rfl cH) rfl ?_;exact dH.no W.out (HB3.out.trans M)
 have t1:decide (L<i)=false:=by simpa using e1
 obtain⟨K,hK⟩:∃K:Nat,i-x.base-1=K:=⟨(i-x.base-1).toNat,by omega⟩
 have hKn:K<ms.length:=by omega
 obtain⟨m,hm⟩:∃m,ms[K]? =some m:=⟨_,List.getElem?_eq_getElem hKn⟩
 obtain⟨b,o,rfl,hb,k0,k1⟩:=h.sl.cell hm;have A:=List.mem_of_getElem? hm;have C:=h.sl.bs m A;have I:m.n=m.b.length:=C.hlen.symm;have hbl:m.b.length<=8192:=by
  have hm3:m.it∈x.l:=by rw[<-h.its];exact List.mem_map_of_mem A
  exact((br _).1 (hg.its _ hm3)).2.2
 rw[I]at k1;have HBS:=Hh (show aM w w.heap.size m.a m.b.length m.c m.b by rw[<-I];exact C);have HYES:=Hh (show x.base<i/\i<=x.last by omega);have HM:=Hh (show x.l.getD (i-x.base-1).toNat (0,[])=m.it by rw[hK,<-h.its];simp[List.getD,List.getElem?_map,hm])
 have s1:IntKind.i64.wrap (i-x.base)=i-x.base:=IntWalk.i64_in _ (by omega);have wK:IntKind.i64.wrap (K:Int)=K:=IntWalk.i64_in _ (by omega);have hi1:(K:Int)<(ms.length:Int):=by omega
 have hi0:(0:Int)<=(K:Int):=by omega
 have HS:=Hh (show yx p b (o+K*2) x.base (some ⟨b,o,none⟩) ms.length lc m y from⟨X.out.cells.1,X.out.cells.2.2.1,(s.cell (p:=⟨b,_,none⟩) hb).trans k0,(s.cell (p:=⟨b,_,none⟩) hb).trans k1⟩);obtain⟨c0, -, -, -⟩:=X.out.cells;rw[f]at c0;clear h hl r hL h3 e0 e1 f s D k0 k1 hm A C I;go_enter Tryz.func53,Tryz.ntmps53
 go_wp2_with fail;rw[<-T.out];refine(cC base p x hg _ lc ms _ X.out).mono ?_;rintro e w3 ⟨rfl,F,rfl⟩;rw[<-HL.out];clear c0;obtain⟨V,hV⟩:∃V,V=y.drewN F:=⟨_,rfl⟩
 rw[<-hV];have hsV:V.heap.size=w.heap.size+1:=by rw[hV,<-hs1];rfl
 have HRV:=Hh (show V.heap[w.heap.size]? =some (.cells #[.int .i64 0, .slice none 0 0] 40 (0,0)) by rw[hV];exact U.out);have HBV:=Hh (show Below w.heap.size w V by rw[hV];exact Y.out.trans ((below_drewN y F).mono (by omega)));have HSV:=Hh (show yx p b (o+K*2) x.base (some ⟨b,o,none⟩) ms.length lc m V by rw[hV];exact HS.out.keep (below_drewN y F) (by omega) (by omega));clear hV;go_wp2_with fail;refine fx (S:=yx p b (o+K*2) x.base (some ⟨b,o,none⟩) ms.length lc m) ?_;have d:yx p b (o+K*2) x.base (some ⟨b,o,none⟩) ms.length lc m V.drew:=HSV.out.keep (N:=w.heap.size) (Below.refl _ _).drew a0 hb;refine hT 0 19 d ?_;refine hT 1 20 d ?_;refine hT 2 21 d ?_;refine hT 3 22 d ?_;refine hT 4 23 d ?_;refine hT 5 24 d ?_;refine hT 6 25 d ?_;refine hT 7 26 d ?_;refine hT 8 27 d ?_;refine hT 9 28 d ?_;refine hT 10 29 d ?_;refine hT 11 30 d ?_;refine hT 12 31 d ?_;refine bp 13 ?_;go_simp;have O:Below w.heap.size w V.drew:=HBV.out.trans (Below.refl _ _).drew;refine(fA m.t m.a m.c m.b V.drew ((HBS.out.below O (Nat.le_refl _)).mono O.size)).mono ?_;rintro e Z ⟨a4,c4,rfl,z,a1⟩;have j:Below V.heap.size V Z:=(show Below V.heap.size V V.drew from(Below.refl _ _).drew).trans a1;have hs4:=j.size;have R:=HSV.out.keep j (by omega) (by omega);have HR4:=Hh ((j.block w.heap.size (by omega)).trans HRV.out);have HB4:=Hh (HBV.out.trans (j.mono (by omega)));have v:Z.ownsRow V.heap.size 5 1 (.slice a4 m.b.length c4) m.b.length (m.b.map bv):=z;have HO4:=Hh v;refine⟨R,?_⟩;clear a1 j z v O d;refine bp 14 ?_;refine wp_store_row 40 _ _ rfl w.heap.size #[.int .i64 m.t, .slice a4 m.b.length c4] rfl rfl 40 _ HR4.out cH rfl (by simp[Value.oneCell']) ?_;have J:=ex Z (cs:=#[.int .i64 m.t, .slice a4 m.b.length c4]) (g:=w.heap.size) (B:=w.heap.size) (by omega);have P:=R.keep J a0 hb;refine⟨P,?_⟩;refine hT 15 5 P ?_;refine dc ?_;have hr:=setRow_heap Z w.heap.size _ #[.int .i64 m.t, .slice a4 m.b.length c4] 40 _ HR4.out;have HBF:=Hh (HB4.out.trans J);have HOF:=Hh (World.ownsRow.kept HO4.out (row:=some w.heap.size) (w':=Z.setRow w.heap.size #[.int .i64 m.t, .slice a4 m.b.length c4]) ⟨rfl,rfl,rfl,by simp,fun k hk hne=>setRow_other _ _ _ _ (fun e=>hne (by rw[e]))⟩ (.inr fun e=>by have h9:=(own_lt HO4.out e).1;omega));have HRF:=Hh hr;clear hr J R P;go_wp2;refine bodyPost_ret (dd rfl _ _ w.heap.size 40 _ (0,0) _ rfl HRF.out Tryz.underlying40 rfl cH) rfl ?_;exact dH.yes (m:=m.it) HYES.out HM.out (OwnBs.of_own (n:=m.b.length) HOF.out (by omega)) HBF.out
end Go.Proofs.YtogcnfhmcpkdcaaGreat
