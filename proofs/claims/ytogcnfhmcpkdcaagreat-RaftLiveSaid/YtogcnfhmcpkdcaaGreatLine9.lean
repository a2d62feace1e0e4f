/-
Contracts of the reference's Same of items, and of Pick.
-/
import Derived.Test.YtogcnfhmcpkdcaaGreatLineM9
import Derived.Test.YtogcnfhmcpkdcaaGreatFieldM
namespace Go.Proofs.YtogcnfhmcpkdcaaGreat
open Go.RowKit
set_option linter.unusedVariables false
set_option linter.unusedSimpArgs false
structure jl (b o b' o' j:Nat) (m m':af) (w':World):Prop where
 g0:w'.cell? ⟨b,o+j*2,none⟩=some (.int .i64 m.t)
 g1:w'.cell? ⟨b',o'+j*2,none⟩=some (.int .i64 m'.t)
 g2:w'.cell? ⟨b,o+j*2+1,none⟩=some (.slice m.a m.n m.c)
 g3:w'.cell? ⟨b',o'+j*2+1,none⟩=some (.slice m'.a m'.n m'.c)
theorem jl.keep{b o b' c j:Nat}{m m':af}{w w':World}(h:jl b o b' c j m m' w){N:Nat}(a:Below N w w')(h1:b<N)(h2:b'<N):jl b o b' c j m m' w':=⟨(a.cell (p:=⟨b,_,none⟩) h1).trans h.g0,(a.cell (p:=⟨b',_,none⟩) h2).trans h.g1,(a.cell (p:=⟨b,_,none⟩) h1).trans h.g2,(a.cell (p:=⟨b',_,none⟩) h2).trans h.g3⟩
theorem oV{ms ms':List af}(c:ms.length=ms'.length)(h:∀(j:Nat) (m m':af),ms[j]? =some m->ms'[j]? =some m'->m.it=m'.it):ms.map af.it=ms'.map af.it:=by
 refine List.ext_getElem? (fun j=> ?_);rw[List.getElem?_map,List.getElem?_map];by_cases b:j<ms.length
 ·have a:j<ms'.length:=by omega
  rw[List.getElem?_eq_getElem b,List.getElem?_eq_getElem a];simp only[Option.map_some];rw[h j _ _ (List.getElem?_eq_getElem b) (List.getElem?_eq_getElem a)]
 ·rw[List.getElem?_eq_none (by omega),List.getElem?_eq_none (by omega)]
theorem ny{ms ms':List af}{j:Nat}{m m':af}(a:ms[j]? =some m)(hm':ms'[j]? =some m')(h:¬m.it=m'.it):¬ms.map af.it=ms'.map af.it:=by intro e;have:=congrArg (fun l=>l[j]?) e;simp only[List.getElem?_map,a,hm',Option.map_some,Option.some.injEq]at this;exact h this
set_option maxRecDepth 100000 in
set_option maxHeartbeats 4000000 in
theorem ta(ms ms':List af)(a a':Option Addr)(n c n' c':Nat)(hnb:n<=1000000)(w:World)(h:bd w w.heap.size a n c ms)(h':bd w w.heap.size a' n' c' ms'):
  Calls Tryz.prog 62 #[.slice a n c, .slice a' n' c'] w fun e w'=>e= .returned (.bool (decide (ms.map af.it=ms'.map af.it)))/\Below w.heap.size w w':=by
 obtain⟨d,M⟩:∃d,d=decide (ms.map af.it=ms'.map af.it):=⟨_,rfl⟩
 rw[<-M];have hl:=h.len;have hl':=h'.len;by_cases hn:n=n'
 ·subst hn;have t1:((n:Int) !=(n:Int))=false:=by simp
  have HD:=Hh M;have H:=Hh h;have H':=Hh h';clear M h h';go_enter Tryz.func62,Tryz.ntmps62
  go_wp2_with fail;go_loopw [5] (fun X wr=>∃j:Nat,j<=n/\X= .int .i64 j/\(∀k m i,k<j->ms[k]? =some m->ms'[k]? =some i->m.it=i.it)/\Below w.heap.size w wr) (fun X _=>n-(intOf X).toNat)
  case atStart=>exact⟨0,by omega,rfl,fun k _ _ U=>by omega,Below.refl _ _⟩
  case round=>
   obtain⟨j,hj,rfl,x,g⟩:=hrel;have z:=Hh x;have HB:=Hh g;have A:=g.size;clear x;by_cases hlt:j<n
   ·obtain⟨m,T⟩:∃m,ms[j]? =some m:=⟨_,List.getElem?_eq_getElem (by omega)⟩
    obtain⟨i,q⟩:∃i,ms'[j]? =some i:=⟨_,List.getElem?_eq_getElem (by omega)⟩
    obtain⟨b,o,rfl,V,k0,k1⟩:=H.out.cell T;obtain⟨F,C,rfl,r,I,G⟩:=H'.out.cell q;have HS:=Hh (show jl b o F C j m i wr from jl.keep (w:=w) ⟨k0,I,k1,G⟩ g V r);have HBS:=Hh (((H.out.bs m (List.mem_of_getElem? T)).below g (Nat.le_refl _)).mono A);have P:=Hh (((H'.out.bs i (List.mem_of_getElem? q)).below g (Nat.le_refl _)).mono A);have HM:=Hh T;have B:=Hh q;have hj0:(0:Int)<=(j:Int):=by omega
    have hj1:(j:Int)<(n:Int):=by omega
    clear k0 k1 I G T q g;by_cases D:m.t=i.t
    ·have t2:(m.t !=i.t)=false:=by simp[D]
     obtain⟨e,he⟩:∃e,e=decide (m.b=i.b):=⟨_,rfl⟩
     have HE:=Hh he;have HT:=Hh D;clear D he;go_wp2_with fail;refine fx (S:=jl b o F C j m i) ?_;have f:jl b o F C j m i wr.drew:=HS.out.keep (N:=w.heap.size) (Below.refl _ _).drew V r;refine hT 0 17 f ?_;refine hT 1 18 f ?_;refine hT 2 19 f ?_;refine hT 3 20 f ?_;refine hT 4 21 f ?_;refine hT 5 22 f ?_;refine hT 6 23 f ?_;refine hT 7 24 f ?_;refine hT 8 25 f ?_;refine hT 9 26 f ?_;refine hT 10 27 f ?_;refine hT 11 28 f ?_;refine hT 12 29 f ?_;refine hT 13 30 f ?_;refine hT 14 31 f ?_;refine hT 15 32 f ?_;refine hT 16 33 f ?_;refine hT 17 34 f ?_;refine hT 18 35 f ?_;refine hT 19 36 f ?_;refine hT 20 37 f ?_;refine hT 21 38 f ?_;refine bp 22 ?_;go_simp;refine(sZ m.b i.b _ _ _ _ _ _ wr.drew (HBS.out.below (w':=wr.drew) (Below.refl _ _).drew (Nat.le_refl _)) (P.out.below (w':=wr.drew) (Below.refl _ _).drew (Nat.le_refl _))).mono ?_;rintro e9 w3 ⟨rfl,O⟩;have p:Below w.heap.size wr.drew w3:=O.mono A;have R:=Hh (HB.out.trans ((Below.refl _ _).drew.trans p));have s:jl b o F C j m i w3:=f.keep p V r;rw[<-HE.out];refine⟨s,?_⟩;clear O p f;refine hT 23 40 s ?_;refine hT 24 41 s ?_;refine dc ?_;clear s;cases e
     ·have v:=Hh (show d=false by
       rw[HD.out];exact decide_eq_false (ny HM.out B.out (fun e=>by have h9:=of_decide_eq_false HE.out.symm;exact h9 (Prod.mk.inj e).2)))
      go_wp2;go_ret;exact⟨bY v.out.symm,R.out⟩
     ·have v:=Hh (show ∀k m i,k<j+1->ms[k]? =some m->ms'[k]? =some i->m.it=i.it from fun k y W U J l=>by
       by_cases Y:k<j
       ·exact z.out k y W Y J l
       ·have L:k=j:=by omega
        subst L;rw[HM.out]at J;rw[B.out]at l;injection J with J;injection l with l;subst J;subst l;exact Prod.ext HT.out (of_decide_eq_true HE.out.symm))
      go_wp2;go_roundw
      case rel=>exact⟨j+1,by omega,by go_num,v.out,R.out⟩
      case measure=>simp[intOf];omega
    ·have t2:(m.t !=i.t)=true:=by simpa using D
     have v:=Hh (show d=false by rw[HD.out];exact decide_eq_false (ny HM.out B.out (fun e=>D (Prod.mk.inj e).1)))
     clear D;go_wp2_with fail;refine fx (S:=jl b o F C j m i) ?_;have f:jl b o F C j m i wr.drew:=HS.out.keep (N:=w.heap.size) (Below.refl _ _).drew V r;refine hT 0 17 f ?_;refine hT 1 18 f ?_;refine hT 2 19 f ?_;refine hT 3 20 f ?_;refine hT 4 21 f ?_;refine hT 5 22 f ?_;refine hT 6 23 f ?_;refine hT 7 24 f ?_;refine hT 8 25 f ?_;refine hT 9 26 f ?_;refine hT 10 27 f ?_;refine hT 11 28 f ?_;refine hN 12 29 f ?_;refine hN 13 30 f ?_;refine hN 14 31 f ?_;refine hN 15 32 f ?_;refine hN 16 33 f ?_;refine hN 17 34 f ?_;refine hN 18 35 f ?_;refine hN 19 36 f ?_;refine hN 20 37 f ?_;refine hN 21 38 f ?_;refine hN 22 39 f ?_;refine hN 23 40 f ?_;refine hT 24 41 f ?_;refine dc ?_;clear f;go_wp2;go_ret;exact⟨bY v.out.symm,HB.out.trans (Below.refl _ _).drew⟩
   ·have a0:j=n:=by omega
    subst a0;have v:=Hh (show d=true by rw[HD.out];exact decide_eq_true (oV (by omega) (fun k y W U Z=>z.out k y W (by rw[<-hl];exact(List.getElem?_eq_some_iff.1 U).1) U Z)))
    clear g;go_wp2;go_ret;exact⟨bY v.out.symm,HB.out⟩
 ·have t1:((n:Int) !=(n':Int))=true:=by simp;omega
  have v:=Hh (show d=false by rw[M];exact decide_eq_false (fun e=>by have:=congrArg List.length e;simp at this;omega))
  clear h h' M hn;go_enter Tryz.func62,Tryz.ntmps62
  go_wp2;go_ret;exact⟨bY v.out.symm,Below.refl _ _⟩
end Go.Proofs.YtogcnfhmcpkdcaaGreat
