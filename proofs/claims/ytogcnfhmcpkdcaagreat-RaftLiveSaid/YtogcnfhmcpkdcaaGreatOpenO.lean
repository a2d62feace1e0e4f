/-
What is read of the arguments, as words on memory: any type by its parts. No program in sight.
-/
import Derived.Test.YtogcnfhmcpkdcaaGreatMemB
import Derived.Test.YtogcnfhmcpkdcaaGreatRows
import Derived.ProofKit
import Derived.OpenShut
import Derived.ChangeOld
import Derived.Deep.Slices
namespace Go.Proofs.YtogcnfhmcpkdcaaGreat
open Go.ChangeShapes Go.WideShapes Go.ChangeAt Go.RowKit
def Rd{H:Type}(enc:TypeId×Value->H)(P:Program)(w:World)(t:TypeId)(cs:List Value):Prop:=∃a x,DataW.trod enc P w 0 (fun _=>true) true a t cs=some x
section
variable {H : Type} {enc : TypeId × Value -> H} {P : Program} {w : World} {t : TypeId} {cs : List Value}
theorem Rd.of{v:Value}{d:DataW H}{ps:List MemPlace}(h:DataW.Trod enc P w 0 (fun _=>true) true t v d ps):Rd enc P w t v.cells.toList:=let ⟨f,hf⟩:=h;⟨f,_,hf⟩
theorem jm{v:Value}{d:DataW H}{ps:List MemPlace}(h:DataW.Trod enc P w 0 (fun _=>true) true t v d ps):∀x∈ps,x.block<w.heap.size:=by obtain⟨m,a⟩:=h;exact DataW.trod_lt m _ _ _ a
theorem Rd.int{k:IntKind}(h:Rd enc P w t cs)(ht:P.underlying t=some (.int k)):∃n,cs= [.int k n]/\(Lit.int k n).wf=true:=by obtain⟨f,x,h⟩:=h;obtain⟨n,b,_,a⟩:=DataW.trod_int ht h;exact⟨n,b,a⟩
theorem Rd.struct{b:Array Field}(h:Rd enc P w t cs)(ht:P.underlying t=some (.struct b)):
  cs.length=P.cellsOf t/\∀(i:Nat) (f:Field),b[i]? =some f->Rd enc P w f.type ((cs.drop f.offset).take (P.cellsOf f.type)):=by
 obtain⟨k,x,h⟩:=h;obtain⟨c,n,_,_,j,g,e⟩:=DataW.trod_struct ht h;refine⟨j,fun i f a=> ?_⟩;have d:i<c.length:=by rw[g];exact(Array.getElem?_eq_some_iff.1 a).1
 have:=e i f a;rw[List.getElem?_eq_getElem d]at this;exact⟨n,_,this⟩
theorem se{f:Nat->Option Value}:∀(n:Nat) (l:List Value),(List.range n).mapM f=some l->l.length=n/\∀i,i<n->f i=l[i]? :=by
 intro n
 induction n with
 | zero=>intro l h;simp at h;subst h;exact⟨rfl,fun i c=>by omega⟩
 | succ n ih=>
  intro l h;rw[List.range_succ,List.mapM_append]at h;simp only[List.mapM_cons,List.mapM_nil,Option.bind_eq_bind,Option.bind_eq_some_iff,Option.pure_def]at h;obtain⟨g,k,y,⟨z,j,e⟩,d⟩:=h;simp at e d;subst e d;obtain⟨b,c⟩:=ih g k;refine⟨by simp[b],fun i a=> ?_⟩;rcases Nat.lt_or_eq_of_le (Nat.le_of_lt_succ a) with h | h
  ·rw[List.getElem?_append_left (by omega)];exact c i h
  ·subst h;rw[List.getElem?_append_right (by omega),b];simpa using j
theorem Rd.slice{e:TypeId}{d:Nat}(h:Rd enc P w t cs)(ht:P.underlying t=some (.slice e))(hc:P.cellsOf e=d)(hs:0<d):
  ∃a n c xs,cs= [.slice a n c]/\SlAt w w.heap.size d a n c xs/\∀i,i<n->Rd enc P w e ((xs.drop (i*d)).take d):=by
 subst hc;obtain⟨f,x,h⟩:=h;rcases Deep.open_slice ht h with⟨rfl,_⟩ | ⟨a,n,c,m,Z,D,Pl,rfl,_,T,U,B,_,O⟩
 ·exact⟨none,0,0,[],rfl,⟨by simp,Nat.le_refl _,by simp[maxLen],fun _=>rfl,fun M=>by simp at M⟩,fun i r=>by omega⟩
 ·simp only[if_true]at B;subst B;have z:∀i,i<n->∃l:List Value,l.length=P.cellsOf e/\(∀j,j<P.cellsOf e->w.cell? ((a.add (i*P.cellsOf e)).add j)=l[j]?)/\Rd enc P w e l:=by
   intro i r;obtain⟨l,v,R⟩:=O i (by omega);simp only[World.cells?,Nat.zero_le,if_true]at v;obtain⟨W,V⟩:=se _ _ v;exact⟨l,W,V,⟨_,_,R⟩⟩
  obtain⟨L,I⟩:=Deep.choose_lt (α:=List Value) (p:=fun i l=>l.length=P.cellsOf e/\(∀j,j<P.cellsOf e->w.cell? ((a.add (i*P.cellsOf e)).add j)=l[j]?)/\Rd enc P w e l) z;have y:∀k,k<=n->((List.range k).flatMap L).length=k*P.cellsOf e/\∀i,i<k->(((List.range k).flatMap L).drop (i*P.cellsOf e)).take (P.cellsOf e)=L i:=by
   intro k
   induction k with
   | zero=>intro _;simp
   | succ k ih=>
    intro Y;obtain⟨v,R⟩:=ih (by omega);have H:=(I k (by omega)).1;rw[List.range_succ,List.flatMap_append];simp only[List.flatMap_cons,List.flatMap_nil,List.append_nil];refine⟨by rw[List.length_append,v,H,Nat.succ_mul],fun i r=> ?_⟩;rcases Nat.lt_or_eq_of_le (Nat.le_of_lt_succ r) with h | h
    ·have N:(i+1)*P.cellsOf e<=k*P.cellsOf e:=Nat.mul_le_mul_right _ (by omega);rw[Nat.succ_mul]at N;rw[List.drop_append_of_le_length (by rw[v];omega),List.take_append_of_le_length (by rw[List.length_drop,v];omega)];exact R i h
    ·subst h;rw[List.drop_append_of_le_length (by rw[v];exact Nat.le_refl _),<-v,List.drop_length,List.nil_append,<-H,List.take_length]
  obtain⟨s,q⟩:=y n (Nat.le_refl _);refine⟨some a,n,m,(List.range n).flatMap L,rfl,⟨s,T,U,fun e=>by simp at e,fun M=> ?_⟩,fun i r=>by rw[q i r];exact(I i r).2.2⟩;have A:0<n:=by
   rcases Nat.eq_zero_or_pos n with h | h
   ·subst h;simp at M
   ·exact h
  have J:w.cell? ((a.add (0*P.cellsOf e)).add 0)=(L 0)[0]? :=(I 0 A).2.1 0 hs;rw[Nat.zero_mul]at J;simp only[Addr.add,if_true]at J;rw[List.getElem?_eq_getElem (by rw[(I 0 A).1];exact hs)]at J;have g:a.spot=Option.none:=World.cell?_spot J;obtain⟨b,o,X⟩:=a;simp only at g;subst g;refine⟨b,o,rfl,World.block_lt_of_cell? _ _ J,fun i r=> ?_⟩;rw[s]at r;have F:i / P.cellsOf e<n:=(Nat.div_lt_iff_lt_mul hs).2 r;have C:i%P.cellsOf e<P.cellsOf e:=Nat.mod_lt _ hs;have S:=(I _ F).2.1 _ C;have G:((⟨b,o,Option.none⟩:Addr).add (i / P.cellsOf e*P.cellsOf e)).add (i%P.cellsOf e)=⟨b,o+i,Option.none⟩:=by have:=Nat.div_add_mod i (P.cellsOf e);rw[Nat.mul_comm]at this;unfold Addr.add;split<;>split<;>simp_all<;>omega
  rw[G]at S;rw[S,<-q _ F,List.getElem?_take_of_lt C,List.getElem?_drop]
  congr 1
  have:=Nat.div_add_mod i (P.cellsOf e);rw[Nat.mul_comm]at this;exact this
end
theorem oO{H:Type}{enc:TypeId×Value->H}{P:Program}{w:World}{t e:TypeId}{b:Nat}{v:Value}{d:DataW H}{ps:List MemPlace}{r:Reach}{base:Nat}
 (f:Value.okWide P w r base t v)(h:DataW.Trod enc P w 0 (fun _=>true) true t v d ps)(ht:P.underlying t=some (.slice e))(hc:P.cellsOf e=b)(hs:0<b):
  ∃a n c xs,v= .slice a n c/\SlAt w w.heap.size b a n c xs/\∀i,i<n->Rd enc P w e ((xs.drop (i*b)).take b):=by
 obtain⟨m,l,c0,rfl⟩:=okWide_slice ht f;obtain⟨a,n,c,xs,g,k,j⟩:=(Rd.of h).slice ht hc hs;simp[Value.cells]at g;obtain⟨rfl,rfl,rfl⟩:=g;exact⟨_,_,_,_,rfl,k,j⟩
theorem mZ{H:Type}{enc:TypeId×Value->H}{P:Program}{w:World}{t e:TypeId}{k:IntKind}{v:Value}{d:DataW H}{ps:List MemPlace}{r:Reach}{base:Nat}
 (p:Value.okWide P w r base t v)(h:DataW.Trod enc P w 0 (fun _=>true) true t v d ps)(ht:P.underlying t=some (.slice e))(he:P.underlying e=some (.int k))(hc:P.cellsOf e=1):
  ∃(a:Option Addr) (c:Nat) (zs:List Int),v= .slice a zs.length c/\SlAt w w.heap.size 1 a zs.length c (zs.map (Value.int k))/\∀z∈zs,(Lit.int k z).wf=true:=by
 obtain⟨a,n,c,j,rfl,g,m⟩:=oO p h ht hc (Nat.zero_lt_one);have b:j.length=n:=by simpa using g.hlen
 have f:∀i (o:i<j.length),∃z,j[i]= .int k z/\(Lit.int k z).wf=true:=by intro i o;obtain⟨z,l,q⟩:=(m i (by omega)).int he;rw[Nat.mul_one,List.drop_eq_getElem_cons o]at l;simp only[List.take_succ_cons,List.take_zero,List.cons.injEq,and_true]at l;exact⟨z,l,q⟩
 have s:∃zs:List Int,j=zs.map (Value.int k)/\∀z∈zs,(Lit.int k z).wf=true:=by
  clear g m b
  induction j with
  | nil=>exact⟨[],rfl,by simp⟩
  | cons x j ih=>obtain⟨z,l,q⟩:=f 0 (by simp);obtain⟨zs,B,A⟩:=ih (fun i o=>by have:=f (i+1) (by simpa using o);simpa using this);simp at l;exact⟨z::zs,by simp[l,B],by simpa using⟨q,A⟩⟩
 obtain⟨zs,rfl,y⟩:=s;obtain rfl:zs.length=n:=by simpa using b
 exact⟨a,c,zs,rfl,g,y⟩
set_option maxRecDepth 100000
section
variable {H : Type} {enc : TypeId × Value -> H} {w : World} {cs : List Value}
theorem yi:Tryz.prog.cellsOf 3=1:=by kernel_rfl
theorem xI{α:Type}{l:List α}(h:l.length=7):∃a b c d e f g,l= [a,b,c,d,e,f,g]:=by
 match l,h with
 | [a,b,c,d,e,f,g],_=>exact⟨a,b,c,d,e,f,g,rfl⟩
end
end Go.Proofs.YtogcnfhmcpkdcaaGreat
