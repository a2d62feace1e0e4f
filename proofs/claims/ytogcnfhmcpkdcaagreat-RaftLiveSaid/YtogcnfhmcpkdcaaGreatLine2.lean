/-
Contract of Line.Add; an item put behind a line's items.
-/
import Derived.Test.YtogcnfhmcpkdcaaGreatLine1
import Derived.Test.YtogcnfhmcpkdcaaGreatFieldW
import Derived.Test.YtogcnfhmcpkdcaaGreatPenLaw
import Derived.Deep.AppendLies
namespace Go.Proofs.YtogcnfhmcpkdcaaGreat
open Go.RowKit
set_option linter.unusedVariables false
set_option linter.unusedSimpArgs false
theorem eJ:(Tryz.prog.info? 40).map (fun i=>(i.zero,i.size,i.bytes))=some (some (.agg #[.int .i64 0, .slice none 0 0]),2,32):=by kernel_rfl
theorem eI:(Tryz.prog.info? 30).map (·.size)=some 1:=by kernel_rfl
theorem cV:(40:Nat)≠105/\(40:Nat)≠5/\(105:Nat)≠5:=by decide
theorem fz{w:World}{base e a n:Nat}{v:Value}{xs:List Value}(h:w.ownsRow base e a v n xs){g:Nat}(b:v.ownBlock=some g):∃cur,w.heap[g]? =some (.cells cur e (0,0)):=by
 rcases h.2 with⟨rfl,_⟩ | ⟨i,d,cur,rfl,f,c,_⟩
 ·simp[Value.ownBlock]at b
 ·simp[Value.ownBlock]at b;subst b;exact⟨cur,c⟩
theorem bS.append{A b:World}{base p:Nat}{x:ae}{la:Option Addr}{lc:Nat}{ms:List af}(h:cE A base p x la lc ms){m:af}(F:OwnBs 5 A m){a3:Option Addr}{c3:Nat}
 (o:b.ownsRow base 40 2 (.slice a3 (ms.length+1) c3) (ms.length+1) (aK ms++m.cells))(hg:A.grownBy b (Value.slice la ms.length lc).ownBlock)
 (z:(Value.slice a3 (ms.length+1) c3).ownBlock=(Value.slice la ms.length lc).ownBlock\/(Value.slice a3 (ms.length+1) c3).ownBlock=some A.heap.size):
  cE (b.setCell ⟨p,2,none⟩ (.slice a3 (ms.length+1) c3)) base p ⟨x.base,x.term,x.l++ [m.it]⟩ a3 c3 (ms++ [m])/\cJ p (Value.slice la ms.length lc).ownBlock A (b.setCell ⟨p,2,none⟩ (.slice a3 (ms.length+1) c3)):=by
 have d:=h.far cV.1;have v:=h.lt;have t:=hg.size;have g:b.heap[p]? =some (.cells #[.int .i64 x.base, .int .i64 x.term, .slice la ms.length lc] 105 (0,0)):=(hg.block p v (fun e=>d e.symm)).trans h.row;have a:∀k,k≠p->(b.setCell ⟨p,2,none⟩ (.slice a3 (ms.length+1) c3)).heap[k]? =b.heap[k]? :=fun k n=>Below.heap_setCell _ _ _ k n
 have w:(Value.slice a3 (ms.length+1) c3).ownBlock≠some p:=by
  rcases z with e | e
  ·rw[e];exact d
  ·rw[e];intro r;injection r with e3;omega
 have c:(ms++ [m]).length=ms.length+1:=by simp
 have C:∀k D fr,k<A.heap.size->A.heap[k]? =some (.cells D 5 fr)->(b.setCell ⟨p,2,none⟩ (.slice a3 (ms.length+1) c3)).heap[k]? =A.heap[k]? :=fun k D fr n f=>by
  have i:k≠p:=fun e=>by rw[e,h.row]at f;injection f with f;injection f with _ r _;exact cV.2.2 r
  have j:some k≠(Value.slice la ms.length lc).ownBlock:=fun e=>by obtain⟨cur,B⟩:=fz h.own e.symm;rw[B]at f;injection f with f;injection f with _ r _;exact cV.2.1 r
  exact(a k i).trans (hg.block k n j)
 refine⟨⟨?_,?_,?_,fun y s=> ?_,h.pb⟩,⟨hg.os,hg.tape,hg.output,by simpa using t,fun k n i j=>(a k i).trans (hg.block k n j)⟩⟩
 ·have B:=heap_setCell_same b p 2 _ _ (.slice a3 (ms.length+1) c3) g;rw[B,c];rfl
 ·rw[c,dO];refine World.ownsRow.kept (xs:=aK ms++aK [m]) o (row:=some p) ⟨rfl,rfl,rfl,by simp,fun k n q=>a k (fun e=>q (by rw[e]))⟩ (.inr w)
 ·rw[List.map_append,h.its];rfl
 ·simp at s;rcases s with s | rfl
  ·exact(h.bs y s).grown (T:=5) C (by simpa using t)
  ·exact F.grown (T:=5) C (by simpa using t)
theorem bS.put{A:World}{base p:Nat}{x:ae}{la:Option Addr}{lc:Nat}{ms:List af}(h:cE A base p x la lc ms){a6:Option Addr}{n6 b:Nat}{ms6:List af}(j:ms6.length=n6)
 (c:A.ownsRow base 40 2 (.slice a6 n6 b) n6 (aK ms6))(hne:(Value.slice a6 n6 b).ownBlock≠some p)(hbs:∀m∈ms6,OwnBs 5 A m):
  cE (A.setCell ⟨p,2,none⟩ (.slice a6 n6 b)) base p ⟨x.base,x.term,ms6.map af.it⟩ a6 b ms6/\∀k,k≠p->(A.setCell ⟨p,2,none⟩ (.slice a6 n6 b)).heap[k]? =A.heap[k]? :=by
 subst j;have a:∀k,k≠p->(A.setCell ⟨p,2,none⟩ (.slice a6 ms6.length b)).heap[k]? =A.heap[k]? :=fun k g=>Below.heap_setCell _ _ _ k g
 refine⟨⟨?_,?_,rfl,fun y i=>(hbs y i).grown (T:=5) (fun k n fr g f=>a k (fun e=> ?_)) (by simp),h.pb⟩,a⟩
 ·have l:=heap_setCell_same A p 2 _ _ (.slice a6 ms6.length b) h.row;rw[l];rfl
 ·exact World.ownsRow.kept c (row:=some p) ⟨rfl,rfl,rfl,by simp,fun k g d=>a k (fun e=>d (by rw[e]))⟩ (.inr hne)
 ·rw[e,h.row]at f;injection f with f;injection f with _ e2 _;exact cV.2.2 e2
def dM(base p:Nat)(x':ae)(o:Option Nat)(w w':World):Prop:=∃c b a,cE w' base p x' c b a/\cJ p o w w'/\∀g,(Value.slice c a.length b).ownBlock=some g->o=some g\/w.heap.size<=g
theorem dM.same{base p:Nat}{x:ae}{w w':World}{la:Option Addr}{lc:Nat}{ms:List af}(h:cE w base p x la lc ms)(hb:Below w.heap.size w w'):dM base p x (Value.slice la ms.length lc).ownBlock w w':=⟨la,lc,ms,h.below hb,cJ.ofBelow hb,fun g e=> .inl e⟩
structure iY (g:Nat) (t:Int) (a:Option Addr) (bn c:Nat) (w':World):Prop where
 g0:w'.cell? ⟨g,0,none⟩=some (.int .i64 t)
 g1:w'.cell? ⟨g,1,none⟩=some (.slice a bn c)
theorem iY.keep{g:Nat}{t:Int}{a:Option Addr}{d c:Nat}{w w':World}(h:iY g t a d c w){N:Nat}(b:Below N w w')(hg:g<N):iY g t a d c w':=⟨(b.cell (p:=⟨g,_,none⟩) hg).trans h.g0,(b.cell (p:=⟨g,_,none⟩) hg).trans h.g1⟩
theorem iY.far{g:Nat}{t:Int}{a:Option Addr}{d c:Nat}{w w':World}(h:iY g t a d c w){row:Option Nat}(b:w.grownBy w' row)(hg:g<w.heap.size)(hr:row≠some g):iY g t a d c w':=⟨(b.cell_far ⟨g,_,none⟩ hg (fun e=>hr e.symm)).trans h.g0,(b.cell_far ⟨g,_,none⟩ hg (fun e=>hr e.symm)).trans h.g1⟩
theorem iY.set{g p:Nat}{t:Int}{a:Option Addr}{b c:Nat}{w:World}(h:iY g t a b c w)(hg:g≠p)(v:Value):iY g t a b c (w.setCell ⟨p,2,none⟩ v):=⟨(World.cell?_setCell_other _ _ _ _ (by intro e;injection e with e1;exact hg e1.symm)).trans h.g0,(World.cell?_setCell_other _ _ _ _ (by intro e;injection e with e1;exact hg e1.symm)).trans h.g1⟩
theorem cw(w:World)(cs:Array Value)(t:TypeId)(size:Nat)(hl:cs.size=size):SlAt (w.alloc (.cells cs t)) (w.heap.size+1) size (some ⟨w.heap.size,0,none⟩) 1 1 cs.toList:=
 ⟨by simp;omega,Nat.le_refl _,by unfold maxLen;omega,fun e=>by simp at e,fun _=>⟨w.heap.size,0,rfl,by omega,fun i a=>by rw[cell_of_row _ w.heap.size (0+i) cs t (0,0) (heap_alloc_new w _)];simp⟩⟩
set_option maxRecDepth 100000 in
set_option maxHeartbeats 4000000 in
theorem mj(base p:Nat)(x:ae)(hg:x.Good)(la:Option Addr)(lc:Nat)(ms:List af)(t:Int)(a:Option Addr)(c:Nat)(b:List UInt8)(w:World)(h:cE w base p x la lc ms)(hb:aM w w.heap.size a b.length c b)(hbase:base<=w.heap.size):
  Calls Tryz.prog 50 #[.pointer (some ⟨p,0,none⟩), .agg #[.int .i64 t, .slice a b.length c]] w fun e w'=>e= .returned (.int .i64 (x.add (t,b)).2)/\dM base p (x.add (t,b)).1 (Value.slice la ms.length lc).ownBlock w w':=by
 obtain⟨i0,hi,hz0,hz1,hz2⟩:=info_parts eJ;have hpl:=h.lt;have hl:=h.len;have h1:=hg.n1;have hb0:=hg.b0;have hb1:=hg.b1;have hn4:(ms.length:Int)<=4096:=by omega
 have H:=Hh h;have HBS:=Hh hb;obtain⟨r,hr⟩:∃r,bj (t,b)=r:=⟨_,rfl⟩
 have HR:=Hh hr;have HBX:=Hh ((Below.refl _ w).alloc (Nat.le_refl _) (.cells #[.int .i64 t, .slice a b.length c] 40));cases r with
 | false=>
  have ha:x.add (t,b)=(x,0):=by unfold ae.add;rw[if_neg (by rw[hr];simp)]
  rw[ha];clear h hb hr ha hl h1;go_enter Tryz.func50,Tryz.ntmps50
  go_wp2_with fail;refine(iG _ _ _ _ _).mono ?_;rintro e I ⟨rfl,hb1⟩;rw[HR.out];have D:=Hh (HBX.out.trans (hb1.mono (by simp)));clear hb1;go_wp2;go_ret;exact⟨rfl,dM.same H.out D.out⟩
 | true=>
  obtain⟨f,hf⟩:∃f,cL x ((ms.length:Int)+1)=f:=⟨_,rfl⟩
  have HF:=Hh hf;cases f with
  | false=>
   have ha:x.add (t,b)=(x,0):=by unfold ae.add;rw[if_neg (by rw[<-hl,hf];simp)]
   rw[ha];clear h hb hr ha hl h1 hf;go_enter Tryz.func50,Tryz.ntmps50
   go_wp2_with fail;refine(iG _ _ _ _ _).mono ?_;rintro e I ⟨rfl,y⟩;rw[HR.out];have D:=Hh (HBX.out.trans (y.mono (by simp)));have H1:=Hh (H.out.below D.out);obtain⟨c0,c1,c2, -⟩:=H1.out.cells;clear y;go_wp2_with fail;refine(kl base p x hb0 hb1 la lc ms _ _ H1.out).mono ?_;rintro e w2 ⟨rfl,rfl⟩;rw[HF.out];clear c0 c1 c2;go_wp2;go_ret;exact⟨rfl,dM.same H.out D.out⟩
  | true=>
   have ha:x.add (t,b)=(⟨x.base,x.term,x.l++ [(t,b)]⟩,x.last+1):=by unfold ae.add;rw[if_pos ⟨hr,by rw[<-hl,hf]⟩]
   have hgood:ae.Good ⟨x.base,x.term,x.l++ [(t,b)]⟩:=by have:=hg.add (t,b);rwa [ha]at this
   have hlast:ae.last ⟨x.base,x.term,x.l++ [(t,b)]⟩=x.last+1:=by simp[ae.last];omega
   have hbl:b.length<=8192:=((br _).1 hr).2.2;rw[ha];have HGD:=Hh hgood;have HLA:=Hh hlast;clear h hb hr ha hl h1 hf hgood hlast;go_enter Tryz.func50,Tryz.ntmps50
   go_wp2_with fail;refine(iG _ _ _ _ _).mono ?_;rintro e I ⟨rfl,y⟩;rw[HR.out];have hs1:=y.size;simp only[World.size_alloc]at hs1;have D:=Hh (HBX.out.trans (y.mono (by simp)));have H1:=Hh (H.out.below D.out);obtain⟨c0,c1,c2, -⟩:=H1.out.cells;have HS1:=Hh (show iY w.heap.size t a b.length c I from⟨by rw[y.cell (p:=⟨w.heap.size,0,none⟩) (by simp)];simp[go_sem],by rw[y.cell (p:=⟨w.heap.size,1,none⟩) (by simp)];simp[go_sem]⟩);have HBS1:=Hh ((HBS.out.below D.out (Nat.le_refl _)).mono D.out.size);clear y;go_wp2_with fail;refine(kl base p x hb0 hb1 la lc ms _ _ H1.out).mono ?_;rintro e w2 ⟨rfl,rfl⟩;rw[HF.out];clear c0 c1;have C2:=Hh c2;go_wp2;refine fx (S:=iY w.heap.size t a b.length c) ?_;have Y:iY w.heap.size t a b.length c I.drew:=HS1.out.keep (N:=I.heap.size) (Below.refl _ _).drew (by omega);refine hT 0 19 Y ?_;refine hT 1 20 Y ?_;refine hT 2 21 Y ?_;refine hT 3 22 Y ?_;refine hT 5 24 Y ?_;refine nU 4 6 ?_ ?_;rotate_left
   ·skip
    go_simp;refine(fA t a c b I.drew (HBS1.out.below (w':=I.drew) (Below.refl _ _).drew (Nat.le_refl _))).mono ?_;rintro e i ⟨F,c3,rfl,z,X⟩;have W:I.heap.size<=i.heap.size:=X.size;have s:Below I.heap.size I i:=(Below.refl _ I).drew.trans X;have a0:=Hh s;have Z:=Hh (HS1.out.keep s (by omega));have HM3:=Hh (show OwnBs 5 i ⟨t,F,b.length,c3,b⟩ from OwnBs.of_own z (by omega));have V:i.cell? ⟨p,2,none⟩=some (.slice la ms.length lc):=(s.cell (p:=⟨p,2,none⟩) (by show p<_;omega)).trans C2.out;clear X s z;refine⟨Z.out,?_⟩;refine nU 4 7 ?_ ?_
    ·skip
     go_simp;refine⟨Z.out,?_⟩;refine bp 7 ?_;go_simp;obtain⟨A,R⟩:∃A,A=i.alloc (.cells #[.int .i64 t, .slice F b.length c3] 40):=⟨_,rfl⟩
     rw[<-R];have HA:=Hh R;have q:Below i.heap.size i A:=by rw[R];exact(Below.refl _ _).alloc (Nat.le_refl _) _
     have hsA:A.heap.size=i.heap.size+1:=by rw[R];simp
     have C:=Hh q;have G:=Hh (Z.out.keep q (by omega));have L:A.cell? ⟨p,2,none⟩=some (.slice la ms.length lc):=(q.cell (p:=⟨p,2,none⟩) (by show p<_;omega)).trans V;clear R q;refine⟨G.out,?_⟩;have n:=Hh (H1.out.below (a0.out.trans (C.out.mono W)));have HSL:=Hh (show SlAt A (i.heap.size+1) 2 (some ⟨i.heap.size,0,none⟩) 1 1 [.int .i64 t, .slice F b.length c3] by rw[HA.out];exact cw i #[.int .i64 t, .slice F b.length c3] 40 2 rfl);refine bp 8 ?_;refine aS A (.tmp 23) (.tmp 26) 30 rfl base 40 i0 (.agg #[.int .i64 0, .slice none 0 0]) 2 32 Tryz.underlying30 hi hz0 hz1 hz2 rfl (by decide) (.slice la ms.length lc) ms.length (aK ms) rfl n.out.own (i.heap.size+1) (some ⟨i.heap.size,0,none⟩) 1 1 [.int .i64 t, .slice F b.length c3] rfl HSL.out (by intro u hu;simp at hu;rcases hu with rfl | rfl<;>rfl) (by unfold maxLen;omega) (by omega) (by omega) ?_;intro a4 c4 w4 j d k;have B:(Value.slice la ms.length lc).ownBlock≠some p:=H.out.far cV.1;have O:(Value.slice la ms.length lc).ownBlock≠some w.heap.size:=fun e=>by have h9:=(own_lt H.out.own e).2;omega
     have v:=Hh (G.out.far d (by omega) O);have J:w4.cell? ⟨p,2,none⟩=some (.slice la ms.length lc):=(d.cell_far ⟨p,2,none⟩ (by show p<_;omega) (fun e=>B e.symm)).trans L;have T:w4.frozen? ⟨p,2,none⟩=false:=(d.frozen_far ⟨p,2,none⟩ (by show p<_;omega) (fun e=>B e.symm)).trans (n.out.cells.2.2.2 2);obtain⟨P,M⟩:=n.out.append (m:=⟨t,F,b.length,c3,b⟩) (HM3.out.below C.out) j d k;have U:=Hh P;have HTU:=Hh (cJ.ofBelowThen (D.out.trans ((a0.out.trans (C.out.mono W)).mono (by omega))) M);have HAT:=Hh k;refine⟨v.out,?_⟩;clear j d k P M B O;refine hT 9 28 v.out ?_;refine hT 10 29 v.out ?_;refine bp 11 ?_;refine aj 30 (.tmp 29) (.tmp 27) rfl p 2 (.slice a4 (ms.length+1) c4) _ rfl rfl rfl eI J T ?_;refine⟨v.out.set (by omega) _,dc ?_⟩;clear J T V L c2;go_wp2_with fail;refine(cC base p _ HGD.out a4 c4 _ _ U.out).mono ?_;rintro e w6 ⟨rfl,m6,rfl⟩;rw[HLA.out];go_wp2;go_ret;refine⟨rfl,a4,c4,_,U.out.drewN m6,HTU.out.thenBelow (below_drewN _ _),?_⟩;intro g o;rw[show(ms++ [(⟨t,F,b.length,c3,b⟩:af)]).length=ms.length+1 by simp]at o;rcases HAT.out with h9 | h9
     ·exact .inl (h9.symm.trans o)
     ·rw[h9]at o;injection o with e9;exact .inr (by omega)
    ·skip
     go_simp;obtain⟨A,R⟩:∃A,A=i.alloc (.cells #[.int .i64 t, .slice F b.length c3] 40):=⟨_,rfl⟩
     rw[<-R];have HA:=Hh R;have q:Below i.heap.size i A:=by rw[R];exact(Below.refl _ _).alloc (Nat.le_refl _) _
     have hsA:A.heap.size=i.heap.size+1:=by rw[R];simp
     have C:=Hh q;have G:=Hh (Z.out.keep q (by omega));have L:A.cell? ⟨p,2,none⟩=some (.slice la ms.length lc):=(q.cell (p:=⟨p,2,none⟩) (by show p<_;omega)).trans V;clear R q;refine⟨G.out,?_⟩;refine bp 4 ?_;go_simp;refine⟨G.out,?_⟩;have n:=Hh (H1.out.below (a0.out.trans (C.out.mono W)));have HSL:=Hh (show SlAt A (i.heap.size+1) 2 (some ⟨i.heap.size,0,none⟩) 1 1 [.int .i64 t, .slice F b.length c3] by rw[HA.out];exact cw i #[.int .i64 t, .slice F b.length c3] 40 2 rfl);refine bp 8 ?_;refine aS A (.tmp 23) (.tmp 26) 30 rfl base 40 i0 (.agg #[.int .i64 0, .slice none 0 0]) 2 32 Tryz.underlying30 hi hz0 hz1 hz2 rfl (by decide) (.slice la ms.length lc) ms.length (aK ms) rfl n.out.own (i.heap.size+1) (some ⟨i.heap.size,0,none⟩) 1 1 [.int .i64 t, .slice F b.length c3] rfl HSL.out (by intro u hu;simp at hu;rcases hu with rfl | rfl<;>rfl) (by unfold maxLen;omega) (by omega) (by omega) ?_;intro a4 c4 w4 j d k;have B:(Value.slice la ms.length lc).ownBlock≠some p:=H.out.far cV.1;have O:(Value.slice la ms.length lc).ownBlock≠some w.heap.size:=fun e=>by have h9:=(own_lt H.out.own e).2;omega
     have v:=Hh (G.out.far d (by omega) O);have J:w4.cell? ⟨p,2,none⟩=some (.slice la ms.length lc):=(d.cell_far ⟨p,2,none⟩ (by show p<_;omega) (fun e=>B e.symm)).trans L;have T:w4.frozen? ⟨p,2,none⟩=false:=(d.frozen_far ⟨p,2,none⟩ (by show p<_;omega) (fun e=>B e.symm)).trans (n.out.cells.2.2.2 2);obtain⟨P,M⟩:=n.out.append (m:=⟨t,F,b.length,c3,b⟩) (HM3.out.below C.out) j d k;have U:=Hh P;have HTU:=Hh (cJ.ofBelowThen (D.out.trans ((a0.out.trans (C.out.mono W)).mono (by omega))) M);have HAT:=Hh k;refine⟨v.out,?_⟩;clear j d k P M B O;refine hT 9 28 v.out ?_;refine hT 10 29 v.out ?_;refine bp 11 ?_;refine aj 30 (.tmp 29) (.tmp 27) rfl p 2 (.slice a4 (ms.length+1) c4) _ rfl rfl rfl eI J T ?_;refine⟨v.out.set (by omega) _,dc ?_⟩;clear J T V L c2;go_wp2_with fail;refine(cC base p _ HGD.out a4 c4 _ _ U.out).mono ?_;rintro e w6 ⟨rfl,m6,rfl⟩;rw[HLA.out];go_wp2;go_ret;refine⟨rfl,a4,c4,_,U.out.drewN m6,HTU.out.thenBelow (below_drewN _ _),?_⟩;intro g o;rw[show(ms++ [(⟨t,F,b.length,c3,b⟩:af)]).length=ms.length+1 by simp]at o;rcases HAT.out with h9 | h9
     ·exact .inl (h9.symm.trans o)
     ·rw[h9]at o;injection o with e9;exact .inr (by omega)
   ·skip
    have HS0:=Hh Y;clear Y;go_simp;refine⟨HS0.out,?_⟩;refine bp 6 ?_;go_simp;refine(fA t a c b I.drew (HBS1.out.below (w':=I.drew) (Below.refl _ _).drew (Nat.le_refl _))).mono ?_;rintro e i ⟨F,c3,rfl,z,X⟩;have W:I.heap.size<=i.heap.size:=X.size;have s:Below I.heap.size I i:=(Below.refl _ I).drew.trans X;have a0:=Hh s;have Z:=Hh (HS1.out.keep s (by omega));have HM3:=Hh (show OwnBs 5 i ⟨t,F,b.length,c3,b⟩ from OwnBs.of_own z (by omega));have V:i.cell? ⟨p,2,none⟩=some (.slice la ms.length lc):=(s.cell (p:=⟨p,2,none⟩) (by show p<_;omega)).trans C2.out;clear X s z;refine⟨Z.out,?_⟩;refine bp 7 ?_;go_simp;obtain⟨A,R⟩:∃A,A=i.alloc (.cells #[.int .i64 t, .slice F b.length c3] 40):=⟨_,rfl⟩
    rw[<-R];have HA:=Hh R;have q:Below i.heap.size i A:=by rw[R];exact(Below.refl _ _).alloc (Nat.le_refl _) _
    have hsA:A.heap.size=i.heap.size+1:=by rw[R];simp
    have C:=Hh q;have G:=Hh (Z.out.keep q (by omega));have L:A.cell? ⟨p,2,none⟩=some (.slice la ms.length lc):=(q.cell (p:=⟨p,2,none⟩) (by show p<_;omega)).trans V;clear R q;refine⟨G.out,?_⟩;have n:=Hh (H1.out.below (a0.out.trans (C.out.mono W)));have HSL:=Hh (show SlAt A (i.heap.size+1) 2 (some ⟨i.heap.size,0,none⟩) 1 1 [.int .i64 t, .slice F b.length c3] by rw[HA.out];exact cw i #[.int .i64 t, .slice F b.length c3] 40 2 rfl);refine bp 8 ?_;refine aS A (.tmp 23) (.tmp 26) 30 rfl base 40 i0 (.agg #[.int .i64 0, .slice none 0 0]) 2 32 Tryz.underlying30 hi hz0 hz1 hz2 rfl (by decide) (.slice la ms.length lc) ms.length (aK ms) rfl n.out.own (i.heap.size+1) (some ⟨i.heap.size,0,none⟩) 1 1 [.int .i64 t, .slice F b.length c3] rfl HSL.out (by intro u hu;simp at hu;rcases hu with rfl | rfl<;>rfl) (by unfold maxLen;omega) (by omega) (by omega) ?_;intro a4 c4 w4 j d k;have B:(Value.slice la ms.length lc).ownBlock≠some p:=H.out.far cV.1;have O:(Value.slice la ms.length lc).ownBlock≠some w.heap.size:=fun e=>by have h9:=(own_lt H.out.own e).2;omega
    have v:=Hh (G.out.far d (by omega) O);have J:w4.cell? ⟨p,2,none⟩=some (.slice la ms.length lc):=(d.cell_far ⟨p,2,none⟩ (by show p<_;omega) (fun e=>B e.symm)).trans L;have T:w4.frozen? ⟨p,2,none⟩=false:=(d.frozen_far ⟨p,2,none⟩ (by show p<_;omega) (fun e=>B e.symm)).trans (n.out.cells.2.2.2 2);obtain⟨P,M⟩:=n.out.append (m:=⟨t,F,b.length,c3,b⟩) (HM3.out.below C.out) j d k;have U:=Hh P;have HTU:=Hh (cJ.ofBelowThen (D.out.trans ((a0.out.trans (C.out.mono W)).mono (by omega))) M);have HAT:=Hh k;refine⟨v.out,?_⟩;clear j d k P M B O;refine hT 9 28 v.out ?_;refine hT 10 29 v.out ?_;refine bp 11 ?_;refine aj 30 (.tmp 29) (.tmp 27) rfl p 2 (.slice a4 (ms.length+1) c4) _ rfl rfl rfl eI J T ?_;refine⟨v.out.set (by omega) _,dc ?_⟩;clear J T V L c2;go_wp2_with fail;refine(cC base p _ HGD.out a4 c4 _ _ U.out).mono ?_;rintro e w6 ⟨rfl,m6,rfl⟩;rw[HLA.out];go_wp2;go_ret;refine⟨rfl,a4,c4,_,U.out.drewN m6,HTU.out.thenBelow (below_drewN _ _),?_⟩;intro g o;rw[show(ms++ [(⟨t,F,b.length,c3,b⟩:af)]).length=ms.length+1 by simp]at o;rcases HAT.out with h9 | h9
    ·exact .inl (h9.symm.trans o)
    ·rw[h9]at o;injection o with e9;exact .inr (by omega)
end Go.Proofs.YtogcnfhmcpkdcaaGreat
