/-
Contracts of slices.Equal over bytes, of the closure of letter.Same and of slices.EqualFunc over it.
-/
import Derived.Test.YtogcnfhmcpkdcaaGreatLetLaw
set_option maxHeartbeats 2000000
set_option maxRecDepth 100000
namespace Go.Proofs.YtogcnfhmcpkdcaaGreat
open Go.RowKit
set_option linter.unusedVariables false
set_option linter.unusedSimpArgs false
structure xA (b o b' o':Nat) (u v:UInt8) (W:World):Prop where
 k0:W.cell? ⟨b,o,none⟩=some (.int .u8 u.toNat)
 k1:W.cell? ⟨b',o',none⟩=some (.int .u8 v.toNat)
theorem vT(l m:List UInt8)(a a':Option Addr)(n c n' c':Nat)(w:World)(h:aM w w.heap.size a n c l)(h':aM w w.heap.size a' n' c' m):
  Calls Tryz.prog 107 #[.slice a n c, .slice a' n' c'] w fun e w'=>e= .returned (.bool (decide (l=m)))/\Below w.heap.size w w':=by
 have hl:=h.hlen;have X:=h'.hlen;have a0:=h.hbig;subst hl X;obtain⟨d,F⟩:∃d,d=decide (l=m):=⟨_,rfl⟩
 rw[<-F];have HD:=Hh F;have H:=Hh h;have H':=Hh h';by_cases P:l.length=m.length
 ·have R:((l.length:Int) !=(m.length:Int))=false:=by simp;omega
  obtain⟨n,r⟩:∃n,n=l.length:=⟨_,rfl⟩
  have s:m.length=n:=by omega
  have J:=Hh r;have L:=Hh s;rw[<-r]at R a0 ⊢;rw[s]at R ⊢;clear F h h' P r s;go_enter Tryz.func107,Tryz.ntmps107
  go_wp2_with fail;go_loopw [13] (fun T wr=>∃j:Nat,j<=n/\T= .int .i64 j/\l.take j=m.take j/\Below w.heap.size w wr) (fun T _=>n-(intOf T).toNat)
  case atStart=>exact⟨0,by omega,rfl,rfl,Below.refl _ _⟩
  case round=>
   obtain⟨j,hj,rfl,D,i⟩:=hrel;have I:=Hh D;have M:=Hh i;have hsz:=i.size;clear D i;by_cases t:j<n
   ·have t2:decide (j<n)=true:=by simpa using t
    have U:=J.out;have W:=L.out;obtain⟨b,o,e,hb,hc⟩:=H.out.hat (by omega);obtain⟨C,z,e',a1,G⟩:=H'.out.hat (by omega);subst e e';have q:j<l.length:=by omega
    have k:j<m.length:=by omega
    have B:wr.cell? ⟨b,o+j,none⟩=some (bv l[j]):=(M.out.cell (p:=⟨b,o+j,none⟩) hb).trans ((hc j q).trans (by simp[q]));have A:wr.cell? ⟨C,z+j,none⟩=some (bv m[j]):=(M.out.cell (p:=⟨C,z+j,none⟩) a1).trans ((G j k).trans (by simp[k]));obtain⟨u,O⟩:∃u,u=l[j]:=⟨_,rfl⟩
    obtain⟨v,N⟩:∃v,v=m[j]:=⟨_,rfl⟩
    rw[<-O]at B;rw[<-N]at A;simp only[bv]at B A;have hj0:(0:Int)<=(j:Int):=by omega
    have hj1:(j:Int)<(n:Int):=by omega
    have HS:=Hh (show u=v->l.take (j+1)=m.take (j+1) from fun e9=>by rw[List.take_succ_eq_append_getElem q,List.take_succ_eq_append_getElem k,I.out,<-O,<-N,e9])
    have HNE:=Hh (show u≠v->d=false from fun e9=>by rw[HD.out,decide_eq_false_iff_not];intro e8;subst e8;exact e9 (O.trans N.symm))
    have tw:decide (j<n)=true:=by simpa using t
    clear hc G U W O N q k;by_cases g:u=v
    ·have t3:(((u.toNat:Nat):Int) !=((v.toNat:Nat):Int))=false:=by simp[g]
     have HN:=Hh (HS.out g);clear g;go_wp2_with fail;refine fx (S:=xA b (o+j) C (z+j) u v) ?_;have f:xA b (o+j) C (z+j) u v wr.drew:=⟨B,A⟩
     have y:=Hh (M.out.trans (show Below w.heap.size wr wr.drew from(Below.refl _ _).drew));clear B A;refine hT 0 16 f ?_;refine hT 1 17 f ?_;refine hT 2 18 f ?_;refine hT 3 19 f ?_;refine hT 4 20 f ?_;refine hT 5 21 f ?_;refine hT 6 22 f ?_;refine hT 7 23 f ?_;refine hT 8 24 f ?_;refine dc ?_;clear f;go_wp2;go_roundw
     case rel=>exact⟨j+1,by omega,by go_num,HN.out,y.out⟩
     case measure=>simp[intOf];omega
    ·have V:u.toNat≠v.toNat:=fun e=>g (UInt8.toNat_inj.1 e)
     have t3:(((u.toNat:Nat):Int) !=((v.toNat:Nat):Int))=true:=by simp;omega
     have x:=HNE.out g;subst x;clear g V;go_wp2_with fail;refine fx (S:=xA b (o+j) C (z+j) u v) ?_;have f:xA b (o+j) C (z+j) u v wr.drew:=⟨B,A⟩
     have y:=Hh (M.out.trans (show Below w.heap.size wr wr.drew from(Below.refl _ _).drew));clear B A;refine hT 0 16 f ?_;refine hT 1 17 f ?_;refine hT 2 18 f ?_;refine hT 3 19 f ?_;refine hT 4 20 f ?_;refine hT 5 21 f ?_;refine hT 6 22 f ?_;refine hT 7 23 f ?_;refine hT 8 24 f ?_;refine dc ?_;clear f;go_wp2;(try rw[Exit.noGoto_ret]);go_ret;exact⟨rfl,y.out⟩
   ·have t2:decide (j<n)=false:=by simpa using t
    have Y:j=n:=by omega
    subst Y;have Z:d=true:=by have h9:=I.out;rw[List.take_of_length_le (by have:=J.out;omega),List.take_of_length_le (by have:=L.out;omega)]at h9;rw[HD.out,h9];simp
    subst Z;go_wp2;go_ret;exact⟨rfl,M.out⟩
 ·have R:((l.length:Int) !=(m.length:Int))=true:=by simp;omega
  have x:d=false:=by rw[F,decide_eq_false_iff_not];intro e;rw[e]at P;exact P rfl
  subst x;clear h h' P F;go_enter Tryz.func107,Tryz.ntmps107
  go_wp2;go_ret;exact⟨rfl,Below.refl _ _⟩
theorem vD(m m':af)(w:World)(h:aM w w.heap.size m.a m.b.length m.c m.b)(h':aM w w.heap.size m'.a m'.b.length m'.c m'.b):
  Calls Tryz.prog 106 #[.agg #[.int .i64 m.t, .slice m.a m.b.length m.c], .agg #[.int .i64 m'.t, .slice m'.a m'.b.length m'.c]] w fun e w'=>e= .returned (.bool (decide (m.it=m'.it)))/\Below w.heap.size w w':=by
 have d:=((Below.refl _ w).alloc (Nat.le_refl w.heap.size) (.cells #[.int .i64 m.t, .slice m.a m.b.length m.c] 40)).alloc (by simp) (.cells #[.int .i64 m'.t, .slice m'.a m'.b.length m'.c] 40);have f:=Hh d;have H:=Hh ((h.below d (Nat.le_refl _)).mono d.size);have n:=Hh ((h'.below d (Nat.le_refl _)).mono d.size);clear d h h';by_cases g:m.t=m'.t
 ·have l:(m.t==m'.t)=true:=by simpa using g
  have j:=Hh (show decide (m.it=m'.it)=decide (m.b=m'.b) by simp[af.it,g]);clear g;go_enter Tryz.func106,Tryz.ntmps106
  go_wp2_with fail;refine(vT m.b m'.b m.a m'.a m.b.length m.c m'.b.length m'.c _ H.out n.out).mono ?_;rintro e o ⟨rfl,i⟩;have k:=Hh (f.out.trans (i.mono f.out.size));clear i;go_wp2;go_ret;exact⟨bY j.out.symm,k.out⟩
 ·have l:(m.t==m'.t)=false:=by simpa using g
  have j:=Hh (show decide (m.it=m'.it)=false by simp[af.it,g]);clear g;go_enter Tryz.func106,Tryz.ntmps106
  go_wp2;go_ret;exact⟨bY j.out.symm,f.out⟩
theorem dA(ms ms':List af)(a a':Option Addr)(n c n' c':Nat)(hnb:n<=1000000)(w:World)(h:bd w w.heap.size a n c ms)(h':bd w w.heap.size a' n' c' ms'):
  Calls Tryz.prog 105 #[.slice a n c, .slice a' n' c', .func (.func 106) #[] #[]] w fun e w'=>e= .returned (.bool (decide (ms.map af.it=ms'.map af.it)))/\Below w.heap.size w w':=by
 obtain⟨d,O⟩:∃d,d=decide (ms.map af.it=ms'.map af.it):=⟨_,rfl⟩
 rw[<-O];have hl:=h.len;have hl':=h'.len;have HD:=Hh O;have H:=Hh h;have H':=Hh h';by_cases hn:n=n'
 ·subst hn;have t1:((n:Int) !=(n:Int))=false:=by simp
  clear O h h';go_enter Tryz.func105,Tryz.ntmps105
  go_wp2_with fail;go_loopw [17] (fun X wr=>∃j:Nat,j<=n/\X= .int .i64 j/\(∀k m f,k<j->ms[k]? =some m->ms'[k]? =some f->m.it=f.it)/\Below w.heap.size w wr) (fun X _=>n-(intOf X).toNat)
  case atStart=>exact⟨0,by omega,rfl,fun k _ _ hk=>by omega,Below.refl _ _⟩
  case round=>
   obtain⟨j,hj,rfl,C,s⟩:=hrel;have D:=Hh C;have L:=Hh s;have Y:=s.size;clear C s;by_cases N:j<n
   ·have t2:decide (j<n)=true:=by simpa using N
    obtain⟨m,V⟩:∃m,ms[j]? =some m:=⟨_,List.getElem?_eq_getElem (by omega)⟩
    obtain⟨f,v⟩:∃f,ms'[j]? =some f:=⟨_,List.getElem?_eq_getElem (by omega)⟩
    obtain⟨b,o,rfl,hb,k0,W⟩:=H.out.cell V;obtain⟨y,z,rfl,S,M,F⟩:=H'.out.cell v;have r:=H.out.bs m (List.mem_of_getElem? V);have g:=H'.out.bs f (List.mem_of_getElem? v);have G:m.n=m.b.length:=r.hlen.symm;have q:f.n=f.b.length:=g.hlen.symm;have r:aM w w.heap.size m.a m.b.length m.c m.b:=by rw[<-G];exact r
    have g:aM w w.heap.size f.a f.b.length f.c f.b:=by rw[<-q];exact g
    rw[G]at W;rw[q]at F;clear G q;have c0:wr.cell? ⟨b,o+j*2,none⟩=some (.int .i64 m.t):=(L.out.cell (p:=⟨b,o+j*2,none⟩) hb).trans k0;have c1:wr.cell? ⟨b,o+j*2+1,none⟩=some (.slice m.a m.b.length m.c):=(L.out.cell (p:=⟨b,o+(j*2+1),none⟩) hb).trans W;have d0:wr.cell? ⟨y,z+j*2,none⟩=some (.int .i64 f.t):=(L.out.cell (p:=⟨y,z+j*2,none⟩) S).trans M;have d1:wr.cell? ⟨y,z+j*2+1,none⟩=some (.slice f.a f.b.length f.c):=(L.out.cell (p:=⟨y,z+(j*2+1),none⟩) S).trans F;have hj0:(0:Int)<=(j:Int):=by omega
    have hj1:(j:Int)<(n:Int):=by omega
    have P:=((Below.refl _ wr).alloc (Nat.le_refl wr.heap.size) (.cells #[.int .i64 m.t, .slice m.a m.b.length m.c] 40)).alloc (by simp) (.cells #[.int .i64 f.t, .slice f.a f.b.length f.c] 40);have l:=Hh (L.out.trans (P.mono Y));have HM:=Hh V;have T:=Hh v;have hbr:b<wr.heap.size:=by omega
    have B:y<wr.heap.size:=by omega
    have x0:(wr.alloc (.cells #[.int .i64 m.t, .slice m.a m.b.length m.c] 40)).cell? ⟨y,z+j*2,none⟩=some (.int .i64 f.t):=(((Below.refl _ wr).alloc (Nat.le_refl _) _).cell (p:=⟨y,z+j*2,none⟩) B).trans d0;have x1:(wr.alloc (.cells #[.int .i64 m.t, .slice m.a m.b.length m.c] 40)).cell? ⟨y,z+j*2+1,none⟩=some (.slice f.a f.b.length f.c):=(((Below.refl _ wr).alloc (Nat.le_refl _) _).cell (p:=⟨y,z+j*2+1,none⟩) B).trans d1;have HS:=Hh ((r.below l.out (Nat.le_refl _)).mono l.out.size);have a2:=Hh ((g.below l.out (Nat.le_refl _)).mono l.out.size);clear k0 W M F r g P V v;go_wp2_with fail;refine(vD m f _ HS.out a2.out).mono ?_;rintro e w3 ⟨rfl,R⟩;have U:=Hh (l.out.trans (R.mono l.out.size));clear R;by_cases he:m.it=f.it
    ·rw[show decide (m.it=f.it)=true from by simpa using he];have HN:=Hh (show ∀k x J,k<j+1->ms[k]? =some x->ms'[k]? =some J->x.it=J.it from fun k x J hk A i=>by
      by_cases Z:k<j
      ·exact D.out k x J Z A i
      ·have:k=j:=by omega
       subst this;rw[HM.out]at A;rw[T.out]at i;injection A with A;injection i with i;subst A i;exact he)
     clear he;go_wp2;go_roundw
     case rel=>exact⟨j+1,by omega,by go_num,HN.out,U.out⟩
     case measure=>simp[intOf];omega
    ·rw[show decide (m.it=f.it)=false from by simpa using he];have I:d=false:=by rw[HD.out,decide_eq_false_iff_not];exact ny HM.out T.out he
     subst I;clear he;go_wp2;(try rw[Exit.noGoto_ret]);go_ret;exact⟨rfl,U.out⟩
   ·have t2:decide (j<n)=false:=by simpa using N
    have a0:j=n:=by omega
    subst a0;have a1:d=true:=by rw[HD.out,decide_eq_true_eq];exact oV (by omega) fun k x J A i=>D.out k x J (by have:=(List.getElem?_eq_some_iff.1 A).1;omega) A i
    subst a1;go_wp2;go_ret;exact⟨rfl,L.out⟩
 ·have t1:((n:Int) !=(n':Int))=true:=by simp;omega
  have I:d=false:=by rw[O,decide_eq_false_iff_not];intro e;have:=congrArg List.length e;simp at this;omega
  subst I;clear h h' O;go_enter Tryz.func105,Tryz.ntmps105
  go_wp2;go_ret;exact⟨rfl,Below.refl _ _⟩
theorem sk(x z:ax)(ia ia':Option Addr)(ic ic':Nat)(ms ms':List af)(ba ba':Option Addr)(bc bc':Nat)(hn:ms.length<=1000000)(w:World)(h:fo w w.heap.size x ia ic ms ba bc)(h':fo w w.heap.size z ia' ic' ms' ba' bc'):
  Calls Tryz.prog 77 #[.agg (aF x ia ms.length ic ba bc), .agg (aF z ia' ms'.length ic' ba' bc')] w fun e w'=>e= .returned (.bool (fH x z))/\Below w.heap.size w w':=by
 obtain⟨Z,l⟩:∃Z,Z=(w.alloc (.cells (aF x ia ms.length ic ba bc) 32)).alloc (.cells (aF z ia' ms'.length ic' ba' bc') 32):=⟨_,rfl⟩
 have p:=Hh l;have hs1:Z.heap.size=w.heap.size+2:=by rw[l];simp
 have j:Below w.heap.size w Z:=by rw[l];exact((Below.refl _ _).alloc (Nat.le_refl _) _).alloc (by simp) _
 have r:=Hh (show Z.heap[w.heap.size]? =some (.cells (aF x ia ms.length ic ba bc) 32 (0,0)) by rw[l];exact(((Below.refl _ _).alloc (Nat.le_refl (w.alloc (.cells (aF x ia ms.length ic ba bc) 32)).heap.size) _).block _ (by simp)).trans (heap_alloc_new w _))
 have q:=Hh (show Z.heap[w.heap.size+1]? =some (.cells (aF z ia' ms'.length ic' ba' bc') 32 (0,0)) by rw[l];have h9:=heap_alloc_new (w.alloc (.cells (aF x ia ms.length ic ba bc) 32)) (.cells (aF z ia' ms'.length ic' ba' bc') 32);simpa using h9)
 have g:=Hh j;have H:=Hh ((h.below j (Nat.le_refl _)).mono j.size);have A:=Hh ((h'.below j (Nat.le_refl _)).mono j.size);obtain⟨R,n⟩:∃R,fH x z=R:=⟨_,rfl⟩
 rw[n];obtain⟨i0,m⟩:∃i0,decide (x.its=z.its)=i0:=⟨_,rfl⟩
 have s:=Hh (show decide (ms.map af.it=ms'.map af.it)=i0 by rw[h.eq,h'.eq];exact m);cases i0 with
 | false=>
  have d:R=false:=by rw[<-n];simp only[fH,m,Bool.false_and]
  have i:=Hh d;clear n d h h' l j m;go_enter Tryz.func77,Tryz.ntmps77
  go_wp2_with fail;rw[<-p.out];refine(dA ms ms' ia ia' ms.length ic ms'.length ic' hn _ H.out.its A.out.its).mono ?_;rintro e W ⟨rfl,c⟩;rw[s.out];have B:=c.size;have f:=Hh (g.out.trans (c.mono g.out.size));obtain⟨c0,c1,c2,c3,c4,c5,U,T⟩:=aq ((c.block w.heap.size (by omega)).trans r.out);obtain⟨S,P,O,N,M,L,J,I⟩:=aq ((c.block (w.heap.size+1) (by omega)).trans q.out);have V:=Hh ((H.out.below c (Nat.le_refl _)).mono c.size);have v:=Hh ((A.out.below c (Nat.le_refl _)).mono c.size);clear c;go_wp2;go_ret;exact⟨bY i.out.symm,f.out⟩
 | true=>
  by_cases C:x.k=z.k
  ·have t0:(x.k==z.k)=true:=by simpa using C
   by_cases D:x.t=z.t
   ·have t1:(x.t==z.t)=true:=by simpa using D
    by_cases F:x.a=z.a
    ·have t2:(x.a==z.a)=true:=by simpa using F
     by_cases G:x.u=z.u
     ·have t3:(x.u==z.u)=true:=by simpa using G
      by_cases X:x.o=z.o
      ·have t4:(x.o==z.o)=true:=by simpa using X
       by_cases Y:x.y=z.y
       ·have t5:(x.y==z.y)=true:=by simpa using Y
        have d:R=decide (x.b=z.b):=by rw[<-n];simp[fH,m,C,D,F,G,X,Y]
        have i:=Hh d;clear n d h h' l j m C D F G X Y;go_enter Tryz.func77,Tryz.ntmps77
        go_wp2_with fail;rw[<-p.out];refine(dA ms ms' ia ia' ms.length ic ms'.length ic' hn _ H.out.its A.out.its).mono ?_;rintro e W ⟨rfl,c⟩;rw[s.out];have B:=c.size;have f:=Hh (g.out.trans (c.mono g.out.size));obtain⟨c0,c1,c2,c3,c4,c5,U,T⟩:=aq ((c.block w.heap.size (by omega)).trans r.out);obtain⟨S,P,O,N,M,L,J,I⟩:=aq ((c.block (w.heap.size+1) (by omega)).trans q.out);have V:=Hh ((H.out.below c (Nat.le_refl _)).mono c.size);have v:=Hh ((A.out.below c (Nat.le_refl _)).mono c.size);clear c;go_wp2_with fail;refine(vT x.b z.b ba ba' x.b.length bc z.b.length bc' _ V.out.b v.out.b).mono ?_;rintro e w5 ⟨rfl,a0⟩;have HB5:=Hh (f.out.trans (a0.mono f.out.size));clear a0 c0 c1 c2 c3 c4 c5 U T S P O N M L J I;go_wp2;go_ret;exact⟨bY i.out.symm,HB5.out⟩
       ·have t5:(x.y==z.y)=false:=by simpa using Y
        have d:R=false:=by rw[<-n];simp[fH,Y]
        have i:=Hh d;clear n d h h' l j m C D F G X Y;go_enter Tryz.func77,Tryz.ntmps77
        go_wp2_with fail;rw[<-p.out];refine(dA ms ms' ia ia' ms.length ic ms'.length ic' hn _ H.out.its A.out.its).mono ?_;rintro e W ⟨rfl,c⟩;rw[s.out];have B:=c.size;have f:=Hh (g.out.trans (c.mono g.out.size));obtain⟨c0,c1,c2,c3,c4,c5,U,T⟩:=aq ((c.block w.heap.size (by omega)).trans r.out);obtain⟨S,P,O,N,M,L,J,I⟩:=aq ((c.block (w.heap.size+1) (by omega)).trans q.out);have V:=Hh ((H.out.below c (Nat.le_refl _)).mono c.size);have v:=Hh ((A.out.below c (Nat.le_refl _)).mono c.size);clear c;go_wp2;go_ret;exact⟨bY i.out.symm,f.out⟩
      ·have t4:(x.o==z.o)=false:=by simpa using X
       have d:R=false:=by rw[<-n];simp[fH,X]
       have i:=Hh d;clear n d h h' l j m C D F G X;go_enter Tryz.func77,Tryz.ntmps77
       go_wp2_with fail;rw[<-p.out];refine(dA ms ms' ia ia' ms.length ic ms'.length ic' hn _ H.out.its A.out.its).mono ?_;rintro e W ⟨rfl,c⟩;rw[s.out];have B:=c.size;have f:=Hh (g.out.trans (c.mono g.out.size));obtain⟨c0,c1,c2,c3,c4,c5,U,T⟩:=aq ((c.block w.heap.size (by omega)).trans r.out);obtain⟨S,P,O,N,M,L,J,I⟩:=aq ((c.block (w.heap.size+1) (by omega)).trans q.out);have V:=Hh ((H.out.below c (Nat.le_refl _)).mono c.size);have v:=Hh ((A.out.below c (Nat.le_refl _)).mono c.size);clear c;go_wp2;go_ret;exact⟨bY i.out.symm,f.out⟩
     ·have t3:(x.u==z.u)=false:=by simpa using G
      have d:R=false:=by rw[<-n];simp[fH,G]
      have i:=Hh d;clear n d h h' l j m C D F G;go_enter Tryz.func77,Tryz.ntmps77
      go_wp2_with fail;rw[<-p.out];refine(dA ms ms' ia ia' ms.length ic ms'.length ic' hn _ H.out.its A.out.its).mono ?_;rintro e W ⟨rfl,c⟩;rw[s.out];have B:=c.size;have f:=Hh (g.out.trans (c.mono g.out.size));obtain⟨c0,c1,c2,c3,c4,c5,U,T⟩:=aq ((c.block w.heap.size (by omega)).trans r.out);obtain⟨S,P,O,N,M,L,J,I⟩:=aq ((c.block (w.heap.size+1) (by omega)).trans q.out);have V:=Hh ((H.out.below c (Nat.le_refl _)).mono c.size);have v:=Hh ((A.out.below c (Nat.le_refl _)).mono c.size);clear c;go_wp2;go_ret;exact⟨bY i.out.symm,f.out⟩
    ·have t2:(x.a==z.a)=false:=by simpa using F
     have d:R=false:=by rw[<-n];simp[fH,F]
     have i:=Hh d;clear n d h h' l j m C D F;go_enter Tryz.func77,Tryz.ntmps77
     go_wp2_with fail;rw[<-p.out];refine(dA ms ms' ia ia' ms.length ic ms'.length ic' hn _ H.out.its A.out.its).mono ?_;rintro e W ⟨rfl,c⟩;rw[s.out];have B:=c.size;have f:=Hh (g.out.trans (c.mono g.out.size));obtain⟨c0,c1,c2,c3,c4,c5,U,T⟩:=aq ((c.block w.heap.size (by omega)).trans r.out);obtain⟨S,P,O,N,M,L,J,I⟩:=aq ((c.block (w.heap.size+1) (by omega)).trans q.out);have V:=Hh ((H.out.below c (Nat.le_refl _)).mono c.size);have v:=Hh ((A.out.below c (Nat.le_refl _)).mono c.size);clear c;go_wp2;go_ret;exact⟨bY i.out.symm,f.out⟩
   ·have t1:(x.t==z.t)=false:=by simpa using D
    have d:R=false:=by rw[<-n];simp[fH,D]
    have i:=Hh d;clear n d h h' l j m C D;go_enter Tryz.func77,Tryz.ntmps77
    go_wp2_with fail;rw[<-p.out];refine(dA ms ms' ia ia' ms.length ic ms'.length ic' hn _ H.out.its A.out.its).mono ?_;rintro e W ⟨rfl,c⟩;rw[s.out];have B:=c.size;have f:=Hh (g.out.trans (c.mono g.out.size));obtain⟨c0,c1,c2,c3,c4,c5,U,T⟩:=aq ((c.block w.heap.size (by omega)).trans r.out);obtain⟨S,P,O,N,M,L,J,I⟩:=aq ((c.block (w.heap.size+1) (by omega)).trans q.out);have V:=Hh ((H.out.below c (Nat.le_refl _)).mono c.size);have v:=Hh ((A.out.below c (Nat.le_refl _)).mono c.size);clear c;go_wp2;go_ret;exact⟨bY i.out.symm,f.out⟩
  ·have t0:(x.k==z.k)=false:=by simpa using C
   have d:R=false:=by rw[<-n];simp[fH,C]
   have i:=Hh d;clear n d h h' l j m C;go_enter Tryz.func77,Tryz.ntmps77
   go_wp2_with fail;rw[<-p.out];refine(dA ms ms' ia ia' ms.length ic ms'.length ic' hn _ H.out.its A.out.its).mono ?_;rintro e W ⟨rfl,c⟩;rw[s.out];have B:=c.size;have f:=Hh (g.out.trans (c.mono g.out.size));obtain⟨c0,c1,c2,c3,c4,c5,U,T⟩:=aq ((c.block w.heap.size (by omega)).trans r.out);obtain⟨S,P,O,N,M,L,J,I⟩:=aq ((c.block (w.heap.size+1) (by omega)).trans q.out);have V:=Hh ((H.out.below c (Nat.le_refl _)).mono c.size);have v:=Hh ((A.out.below c (Nat.le_refl _)).mono c.size);clear c;go_wp2;go_ret;exact⟨bY i.out.symm,f.out⟩
end Go.Proofs.YtogcnfhmcpkdcaaGreat
