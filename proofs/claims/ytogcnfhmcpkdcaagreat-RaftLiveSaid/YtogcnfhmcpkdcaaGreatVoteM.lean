/-
Plain law: the index at its place in the sorted list is the greatest that enough have. No program in sight.
-/
import Derived.Test.YtogcnfhmcpkdcaaGreatMemB
import Derived.Test.YtogcnfhmcpkdcaaGreatRows
import Derived.Test.YtogcnfhmcpkdcaaGreatShelf
import Derived.WalkKit
import Derived.WalkLawsBesides
import Derived.Lib.Hide
import Derived.Deep.QuietTactic
import Derived.BigQuiet
import Derived.Deep.DeepMust
import Derived.Deep.DeepFit
namespace Go.Proofs.YtogcnfhmcpkdcaaGreat
def cU(zs:List Int):List Int:=zs.mergeSort fun x y=>decide (x<=y)
def dP(zs:List Int):Bool:=decide (1<=zs.length) && decide (zs.length<=7)
def cB(zs:List Int):Int:=if dP zs=true then(cU zs).getD (zs.length-(zs.length / 2+1)) 0 else 0
def dJ(zs:List Int)(x:Int):Nat:=(zs.filter fun y=>decide (x<=y)).length
def nK(zs:List Int)(acc:Int×Bool)(x:Int):Int×Bool:=if zs.length / 2+1<=dJ zs x/\(acc.2=false\/acc.1<x) then(x,true) else acc
def dh(zs:List Int)(l:List Int):Int×Bool:=l.foldl (nK zs) (0,false)
theorem rB(a l:List Int)(x:Int):dh a (l++ [x])=nK a (dh a l) x:=by simp[dh]
theorem dq(a:List Int):(cU a).length=a.length:=by simp[cU]
theorem jX(a:List Int):(cU a).Perm a:=List.mergeSort_perm _ _
theorem mJ(d:List Int):(cU d).Pairwise (·<= ·):=by have h:=List.pairwise_mergeSort (le:=fun x y:Int=>decide (x<=y)) (by intro a b c f e;simp at*;omega) (by intro a b;simp;omega) d;exact h.imp (by intro a b h;simpa using h)
theorem nH{l m:List Int}(h:l.Perm m)(x:Int):dJ l x=dJ m x:=(h.filter _).length_eq
theorem gO(l m:List Int)(x:Int):dJ (l++m) x=dJ l x+dJ m x:=by simp[dJ]
theorem we(l:List Int)(x:Int):dJ l x<=l.length:=List.length_filter_le _ _
theorem uK(l:List Int)(x:Int)(h:∀y∈l,x<=y):dJ l x=l.length:=by unfold dJ;rw[List.filter_eq_self.2 (by intro y a;simpa using h y a)]
theorem sI(l:List Int)(x:Int)(h:∀y∈l,y<x):dJ l x=0:=by unfold dJ;rw[List.filter_eq_nil_iff.2 (by intro y a;have:=h y a;simp;omega)];rfl
theorem nL(a:List Int):∀l:List Int,((dh a l).2=true->(dh a l).1∈l/\a.length / 2+1<=dJ a (dh a l).1)/\
  (∀x∈l,a.length / 2+1<=dJ a x->(dh a l).2=true/\x<=(dh a l).1)/\((dh a l).2=false->(dh a l).1=0):=by
 intro l
 induction l using lW with
 | h0=>simp[dh]
 | h1 l x ih=>
  obtain⟨h1,e,i⟩:=ih;rw[rB];unfold nK;split
  ·rename_i d
   refine⟨fun _=>⟨by simp,d.1⟩,?_,fun h=>by simp at h⟩;intro y b c;rcases List.mem_append.1 b with b | b
   ·obtain⟨g,f⟩:=e y b c;rcases d.2 with h | h
    ·rw[g]at h;cases h
    ·exact⟨rfl,by show y<=x;omega⟩
   ·have:y=x:=by simpa using b
    subst this;exact⟨rfl,Int.le_refl _⟩
  ·rename_i d
   refine⟨fun h=>⟨List.mem_append_left _ (h1 h).1,(h1 h).2⟩,?_,i⟩;intro y b c;rcases List.mem_append.1 b with b | b
   ·exact e y b c
   ·have:y=x:=by simpa using b
    subst this;cases hb:(dh a l).2
    ·exact absurd ⟨c, .inl hb⟩ d
    ·refine⟨rfl,?_⟩;rcases (show(dh a l).1<y\/y<=(dh a l).1 by omega) with h | h
     ·exact absurd ⟨c, .inr h⟩ d
     ·exact h
theorem oy(a:List Int)(h1:1<=a.length)(h7:a.length<=7):dh a a=(cB a,true):=by
 have o:dP a=true:=by simp[dP,h1,h7]
 have l:cB a=(cU a).getD (a.length-(a.length / 2+1)) 0:=by simp[cB,o]
 obtain⟨k,D⟩:∃k,k=a.length-(a.length / 2+1):=⟨_,rfl⟩
 have d:k<(cU a).length:=by rw[dq];omega
 rw[<-D]at l;have n:cB a=(cU a)[k]:=by rw[l];simp[List.getD,List.getElem?_eq_getElem d]
 have c:=mJ a;have b:=jX a;have t:=dq a;generalize cU a=s at*;have g:∀i j (f:i<s.length) (v:j<s.length),i<=j->s[i]<=s[j]:=by
  intro i j f v p;rcases Nat.lt_or_eq_of_le p with h | h
  ·exact(List.pairwise_iff_getElem.1 c) i j f v h
  ·subst h;exact Int.le_refl _
 have r:a.length / 2+1<=dJ a (cB a):=by
  rw[<-nH b,<-List.take_append_drop k s,gO,uK (s.drop k)]
  ·simp;omega
  ·intro y m;obtain⟨i,f,rfl⟩:=List.getElem_of_mem m;rw[n,List.getElem_drop];exact g _ _ _ _ (by omega)
 have q:∀x,cB a<x->dJ a x<a.length / 2+1:=by
  intro x B;rw[<-nH b,<-List.take_append_drop (k+1) s,gO,sI (s.take (k+1))]
  ·have:=we (s.drop (k+1)) x;simp at this;omega
  ·intro y m;obtain⟨i,f,rfl⟩:=List.getElem_of_mem m;rw[List.getElem_take];have F:i<k+1:=by simp at f;omega
   have:=g i k (by omega) d (by omega);rw[n]at B;omega
 have e:cB a∈a:=by rw[n];exact b.subset (List.getElem_mem d)
 obtain⟨A,z,_⟩:=nL a a;obtain⟨w,C⟩:=z _ e r;have G:=(A w).2;have:(dh a a).1=cB a:=by
  rcases (show cB a<(dh a a).1\/(dh a a).1<=cB a by omega) with h | h
  ·have:=q _ h;omega
  ·omega
 exact Prod.ext this w
open Go.RowKit
def bD(n:Int):Int:=if n<1\/7<n then 0 else n / 2+1
theorem cj(n:Int)(w:World):
  Calls Tryz.prog 33 #[.int .i64 n] w fun e w'=>e= .returned (.int .i64 (bD n))/\w=w':=by
 rcases (show n<=0\/8<=n\/(1<=n/\n<=7) by omega) with h | h | ⟨h,c⟩
 ·have a:bD n=0:=by unfold bD;rw[if_pos (by omega)]
  rw[a];clear a;go_enter Tryz.func33,Tryz.ntmps33
  go_wp2;go_ret;exact⟨rfl,rfl⟩
 ·have a:bD n=0:=by unfold bD;rw[if_pos (by omega)]
  rw[a];clear a;have b:decide (n<1)=false:=by simp;omega
  go_enter Tryz.func33,Tryz.ntmps33
  go_wp2;go_ret;exact⟨rfl,rfl⟩
 ·have a:bD n=n / 2+1:=by unfold bD;rw[if_neg (by omega)]
  rw[a];clear a;have b:decide (n<1)=false:=by simp;omega
  have d:decide (7<n)=false:=by simp;omega
  go_enter Tryz.func33,Tryz.ntmps33
  go_wp2;go_ret;exact⟨rfl,rfl⟩
def eV(n:Int):Bool:=decide (0<=n) && decide (n<7)
theorem dD(n:Int)(w:World):
  Calls Tryz.prog 108 #[.int .i64 n] w fun e w'=>e= .returned (.bool (eV n))/\w=w':=by
 by_cases h:0<=n
 ·have a:eV n=decide (n<7):=by simp[eV,h]
  rw[a];clear a;have b:decide (0<=n)=true:=by simpa using h
  go_enter Tryz.func108,Tryz.ntmps108
  go_wp2;go_ret;exact⟨rfl,rfl⟩
 ·have a:eV n=false:=by simp[eV,h]
  rw[a];clear a;have b:decide (0<=n)=false:=by simpa using h
  go_enter Tryz.func108,Tryz.ntmps108
  go_wp2;go_ret;exact⟨rfl,rfl⟩
def tc(x y:Int):Int:=if x=0 then y else x
theorem pR(x y:Int)(b:Nat)(w:World)(hx:w.cell? ⟨b,0,none⟩=some (.int .i64 x))(hy:w.cell? ⟨b,1,none⟩=some (.int .i64 y)):
  Calls Tryz.prog 109 #[.slice (some ⟨b,0,none⟩) 2 2] w fun e w'=>e= .returned (.int .i64 (tc x y))/\w=w':=by
 unfold tc;by_cases h:x=0
 ·subst h;by_cases a:y=0
  ·subst a;go_enter Tryz.func109,Tryz.ntmps109
   go_wp2;refine wp_loop_rounds 3 ?_;rw[rounds_succ];go_wp2;rw[rounds_succ];go_wp2;rw[rounds_succ];go_wp2;go_ret;exact⟨rfl,rfl⟩
  ·have d:(y==0)=false:=by simpa using a
   have c:(y !=0)=true:=by simpa using a
   go_enter Tryz.func109,Tryz.ntmps109
   go_wp2;refine wp_loop_rounds 2 ?_;rw[rounds_succ];go_wp2;rw[rounds_succ];go_wp2;go_ret;exact⟨rfl,rfl⟩
 ·have d:(x==0)=false:=by simpa using h
  have c:(x !=0)=true:=by simpa using h
  rw[if_neg h];go_enter Tryz.func109,Tryz.ntmps109
  go_wp2;refine wp_loop_rounds 1 ?_;rw[rounds_succ];go_wp2;go_ret;exact⟨rfl,rfl⟩
def ed(last term own ownTerm:Int):Bool:=decide (ownTerm<term) || (decide (term=ownTerm) && decide (own<=last))
theorem ox(t u l o:Int):decide (0<=tc (Lib.compareInt t u) (Lib.compareInt l o))=ed l t o u:=by unfold tc Lib.compareInt ed;rcases Int.lt_trichotomy t u with h | h | h<;>rcases Int.lt_trichotomy l o with a | a | a<;>simp_all<;>omega
theorem gS(l t o u:Int)(w:World):
  Calls Tryz.prog 80 #[.int .i64 l, .int .i64 t, .int .i64 o, .int .i64 u] w fun e w'=>e= .returned (.bool (ed l t o u))/\Below w.heap.size w w':=by
 rw[<-ox];go_enter Tryz.func80,Tryz.ntmps80
 go_wp2_with fail;refine(Tryz.cmp_Compare_int _ _ _).mono ?_;rintro e w' ⟨rfl,rfl⟩;go_wp2_with fail;refine(Tryz.cmp_Compare_int _ _ _).mono ?_;rintro e w' ⟨rfl,rfl⟩;go_wp2_with fail;refine(pR (Lib.compareInt t u) (Lib.compareInt l o) _ _ (World.cell?_alloc_new _ _ _ _) (World.cell?_alloc_new _ _ _ _)).mono ?_;rintro e a ⟨rfl,rfl⟩;go_wp2;go_ret;exact⟨rfl,(Below.refl _ _).alloc (Nat.le_refl _) _⟩
def mG(bt term:Int):Int:=if bt<term then term else bt
def mH(bt bf term:Int):Int:=if bt<term then -1 else bf
theorem my(bt bf t:Int)(w:World):
  Calls Tryz.prog 43 #[.agg #[.int .i64 bt, .int .i64 bf], .int .i64 t] w fun e w'=>e= .returned (.agg #[.int .i64 (mG bt t), .int .i64 (mH bt bf t)])/\Below w.heap.size w w':=by
 by_cases h:bt<t
 ·have b:mG bt t=t:=by simp[mG,h]
  have a:mH bt bf t= -1:=by simp[mH,h]
  rw[b,a];clear b a;go_enter Tryz.func43,Tryz.ntmps43
  go_wp2;refine bodyPost_ret (v:= .agg #[.int .i64 t, .int .i64 (-1)]) (by simp[results,Tryz.results43,go_sem]) rfl ⟨rfl,?_⟩;exact((Below.refl _ _).alloc (Nat.le_refl _) _).alloc (by simp) _
 ·have b:mG bt t=bt:=by simp[mG,h]
  have a:mH bt bf t=bf:=by simp[mH,h]
  rw[b,a];clear b a;go_enter Tryz.func43,Tryz.ntmps43
  go_wp2;refine bodyPost_ret (v:= .agg #[.int .i64 bt, .int .i64 bf]) (by simp[results,Tryz.results43,go_sem]) rfl ⟨rfl,?_⟩;exact((Below.refl _ _).alloc (Nat.le_refl _) _).alloc (by simp) _
def bJ(bt bf:Int)(from_ t:Int)(an:Bool):Bool:=eV from_ && an && decide (bt=t) && (decide (bf=from_) || decide (bf= -1))
def fY(bt bf f t:Int)(an:Bool):Int:=if bJ bt bf f t an then t else bt
def cW(bt bf f t:Int)(an:Bool):Int:=if bJ bt bf f t an then f else bf
theorem eZ(bt bf f t:Int)(an:Bool)(w:World):
  Calls Tryz.prog 79 #[.agg #[.int .i64 bt, .int .i64 bf], .int .i64 f, .int .i64 t, .bool an] w fun e w'=>
   e= .returned (.tuple #[.agg #[.int .i64 (fY bt bf f t an), .int .i64 (cW bt bf f t an)], .bool (bJ bt bf f t an)])/\Below w.heap.size w w':=by
 have o:∀n m l,Below w.heap.size w (((w.alloc n).alloc m).alloc l):=fun n m l=>(((Below.refl _ _).alloc (Nat.le_refl _) _).alloc (by simp) _).alloc (by simp;omega) _
 have d:=Hh o;clear o;unfold fY cW;cases hg:bJ bt bf f t an
 ·simp only[Bool.false_eq_true,if_false];have k:eV f=false\/(eV f=true/\an=false)\/(eV f=true/\an=true/\bt≠t)\/(eV f=true/\an=true/\bt=t/\bf≠f/\bf≠ -1):=by
   simp[bJ]at hg;by_cases r:bt=t
   ·cases hw:eV f<;>cases an<;>simp_all
   ·cases hw:eV f<;>cases an<;>simp_all
  clear hg;rcases k with a | ⟨a,c⟩ | ⟨a,c,i⟩ | ⟨a,c,i,j,h⟩
  ·have b:=Hh a;clear a;go_enter Tryz.func79,Tryz.ntmps79
   go_wp2_with fail;refine(dD _ _).mono ?_;rintro e g ⟨rfl,rfl⟩;rw[b.out];go_wp2;refine bodyPost_ret (v:= .tuple #[.agg #[.int .i64 bt, .int .i64 bf], .bool false]) (by simp[results,Tryz.results79,go_sem]) rfl ⟨rfl,d.out _ _ _⟩
  ·have b:=Hh a;clear a;subst c;go_enter Tryz.func79,Tryz.ntmps79
   go_wp2_with fail;refine(dD _ _).mono ?_;rintro e g ⟨rfl,rfl⟩;rw[b.out];go_wp2;refine bodyPost_ret (v:= .tuple #[.agg #[.int .i64 bt, .int .i64 bf], .bool false]) (by simp[results,Tryz.results79,go_sem]) rfl ⟨rfl,d.out _ _ _⟩
  ·have b:=Hh a;clear a;subst c;have p:(bt==t)=false:=by simpa using i
   go_enter Tryz.func79,Tryz.ntmps79
   go_wp2_with fail;refine(dD _ _).mono ?_;rintro e g ⟨rfl,rfl⟩;rw[b.out];go_wp2;refine bodyPost_ret (v:= .tuple #[.agg #[.int .i64 bt, .int .i64 bf], .bool false]) (by simp[results,Tryz.results79,go_sem]) rfl ⟨rfl,d.out _ _ _⟩
  ·have b:=Hh a;clear a;subst c i;have p:(bf==f)=false:=by simpa using j
   have s:(bf== -1)=false:=by simpa using h
   go_enter Tryz.func79,Tryz.ntmps79
   go_wp2_with fail;refine(dD _ _).mono ?_;rintro e g ⟨rfl,rfl⟩;rw[b.out];go_wp2;refine bodyPost_ret (v:= .tuple #[.agg #[.int .i64 bt, .int .i64 bf], .bool false]) (by simp[results,Tryz.results79,go_sem]) rfl ⟨rfl,d.out _ _ _⟩
 ·simp[bJ]at hg;obtain⟨⟨⟨a,c⟩,i⟩,j⟩:=hg;have b:=Hh a;clear a;subst c i;simp only[if_true];by_cases h:bf=f
  ·subst h;clear j;go_enter Tryz.func79,Tryz.ntmps79
   go_wp2_with fail;refine(dD _ _).mono ?_;rintro e g ⟨rfl,rfl⟩;rw[b.out];go_wp2;refine bodyPost_ret (v:= .tuple #[.agg #[.int .i64 bt, .int .i64 bf], .bool true]) (by simp[results,Tryz.results79,go_sem]) rfl ⟨rfl,d.out _ _ _⟩
  ·have q:bf= -1:=by omega
   subst q;clear j;have p:((-1:Int)==f)=false:=by simpa using h
   clear h;go_enter Tryz.func79,Tryz.ntmps79
   go_wp2_with fail;refine(dD _ _).mono ?_;rintro e g ⟨rfl,rfl⟩;rw[b.out];go_wp2;refine bodyPost_ret (v:= .tuple #[.agg #[.int .i64 bt, .int .i64 f], .bool true]) (by simp[results,Tryz.results79,go_sem]) rfl ⟨rfl,d.out _ _ _⟩
open Go.RowKit Go.Sort
set_option maxHeartbeats 400000 in
theorem kH(d:List Int)(a:Option Addr)(c:Nat)(w:World)(h:SlAt w w.heap.size 1 a d.length c (d.map (Value.int .i64))):
  Calls Tryz.prog 88 #[.slice a d.length c] w fun e w'=>e= .returned (.tuple #[.int .i64 (cB d), .bool (dP d)])/\Below w.heap.size w w':=by
 have R:=h.hmax;have Y:=h.hle;unfold maxLen at R;by_cases C:1<=d.length/\d.length<=7
 ·obtain⟨T,S⟩:=C;have q:dP d=true:=by simp[dP,T,S]
  have y:cB d=(cU d).getD (d.length-(d.length / 2+1)) 0:=by simp[cB,q]
  rw[q,y];clear q y;obtain⟨b,o,rfl,Z,M⟩:=h.hat (by simp;omega);have v:∀j,j<d.length->w.cell? ⟨b,o+j,none⟩=some (.int .i64 (d.getD j 0)):=fun j L=>by have:=M j (by simpa using L);rw[this];simp[List.getElem?_map,List.getD,List.getElem?_eq_getElem L]
  have H:=Hh v;clear v M h;have he:bD (d.length:Int)=(d.length:Int) / 2+1:=by unfold bD;rw[if_neg (by omega)]
  have HE:=Hh he;clear he;go_enter Tryz.func88,Tryz.ntmps88
  go_wp2_with fail;refine(cj _ _).mono ?_;rintro e r ⟨rfl,rfl⟩;rw[HE.out];have b1:(((d.length:Int) / 2+1)==0)=false:=by simp;omega
  go_wp2_with fail;refine(Tryz.slices_Clone_int b o d.length c d _ (Nat.le_refl _) (by omega) H.out).mono ?_;rintro e r ⟨V,rfl,i,s,l⟩;rw[List.take_of_length_le (Nat.le_refl _)]at i;rcases i.2 with⟨O,_⟩ | ⟨g,z,cur,rfl,x,A,P,D,J,I⟩
  ·exact absurd O s
  have N:Holds (Value.int .i64) r g 0 d.toArray:=holds_of_blockI A (by simpa using I);have G:g<r.heap.size:=(Array.getElem?_eq_some_iff.1 A).1;go_wp2_with fail;refine(Tryz.slices_Sort_int g 0 z d r N G (by omega)).mono ?_;rintro e B ⟨rfl,X,W,n⟩;have t:r.grownBy B (some g):=by rw[n];exact grownBy_sortedI _
  have f:B.ownsRow w.heap.size 3 1 (.slice (some ⟨g,0,none⟩) d.length z) d.length ((cU d).map (Value.int .i64)):=by rw[n];exact ownsRow_sortedI (dq d) x A P D J
  clear n N A J I i s;have p:=f.cellAt (d.length-(d.length / 2+1)) (by omega);have m:((cU d).map (Value.int .i64))[d.length-(d.length / 2+1)]? =some (.int .i64 ((cU d).getD (d.length-(d.length / 2+1)) 0)):=by
   have F:d.length-(d.length / 2+1)<(cU d).length:=by rw[dq];omega
   simp[List.getElem?_map,List.getD,List.getElem?_eq_getElem F]
  rw[m]at p;clear m f;have k:Below w.heap.size w B:=l.trans (rC t x l.size);clear l t;have U:=Hh k;clear k;go_wp2;go_ret2;exact⟨rfl,U.out⟩
 ·have q:dP d=false:=by simp[dP];omega
  have y:cB d=0:=by simp[cB,q]
  rw[q,y];clear q y h;have he:bD (d.length:Int)=0:=by unfold bD;rw[if_pos (by omega)]
  have HE:=Hh he;clear he;go_enter Tryz.func88,Tryz.ntmps88
  go_wp2_with fail;refine(cj _ _).mono ?_;rintro e r ⟨rfl,rfl⟩;rw[HE.out];go_wp2;go_ret2;exact⟨rfl,Below.refl _ _⟩
end Go.Proofs.YtogcnfhmcpkdcaaGreat
