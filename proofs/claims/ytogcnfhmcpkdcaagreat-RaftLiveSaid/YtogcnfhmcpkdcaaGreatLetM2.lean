/-
Contracts of letter's within, isPlace, used, of the closure of Right, and of the reference's in.
-/
import Derived.Test.YtogcnfhmcpkdcaaGreatLetLaw
import Derived.Test.YtogcnfhmcpkdcaaGreatLineM9
import Derived.Test.YtogcnfhmcpkdcaaGreatLetM1
set_option maxRecDepth 100000
set_option maxHeartbeats 2000000
namespace Go.Proofs.YtogcnfhmcpkdcaaGreat
open Go.RowKit
set_option linter.unusedVariables false
set_option linter.unusedSimpArgs false
theorem aR:(Tryz.prog.info? 32).map (·.size)=some 8:=by kernel_rfl
theorem eu:(Tryz.prog.info? 3).map (·.size)=some 1:=by kernel_rfl
theorem iL:(Tryz.prog.info? 4).map (·.size)=some 1:=by kernel_rfl
theorem nA:(Tryz.prog.info? 30).map (·.size)=some 1:=by kernel_rfl
theorem sy:(Tryz.prog.info? 27).map (·.size)=some 1:=by kernel_rfl
theorem bV(n a:Int)(w:World):
  Calls Tryz.prog 73 #[.int .i64 n, .int .i64 a] w fun e w'=>e= .returned (.bool (oY n a))/\w=w':=by
 obtain⟨x,y,d,c⟩:∃x y:Bool,decide (0<=n)=x/\decide (n<=a)=y:=⟨_,_,rfl,rfl⟩
 have b:oY n a=(x && y):=by rw[<-d,<-c];rfl
 rw[b];have HE:=Hh b;clear b;cases x
 ·go_enter Tryz.func73,Tryz.ntmps73
  go_wp2;go_ret;exact⟨rfl,rfl⟩
 ·cases y
  all_goals
   go_enter Tryz.func73,Tryz.ntmps73
   go_wp2;go_ret;exact⟨rfl,rfl⟩
theorem eH(n m:Int)(w:World):Calls Tryz.prog 74 #[.int .i64 n, .int .i64 m] w fun e w'=>e= .returned (.bool (rI n && rI m))/\w=w':=by
 obtain⟨x,b⟩:∃x:Bool,oY n 1099511627776=x:=⟨_,rfl⟩
 obtain⟨y,a⟩:∃y:Bool,oY m 1099511627776=y:=⟨_,rfl⟩
 have d:(rI n && rI m)=(x && y):=by rw[<-b,<-a];rfl
 rw[d];have f:=Hh b;have g:=Hh a;clear d b a;cases x
 ·go_enter Tryz.func74,Tryz.ntmps74
  go_wp2_with fail;refine(bV _ _ _).mono ?_;rintro e c ⟨rfl,rfl⟩;rw[f.out];go_wp2;go_ret;exact⟨rfl,rfl⟩
 ·cases y
  all_goals
   go_enter Tryz.func74,Tryz.ntmps74
   go_wp2_with fail;refine(bV _ _ _).mono ?_;rintro e c ⟨rfl,rfl⟩;rw[f.out];go_wp2_with fail;refine(bV _ _ _).mono ?_;rintro e c ⟨rfl,rfl⟩;rw[g.out];go_wp2;go_ret;exact⟨rfl,rfl⟩
theorem uu(t:Int)(a:Option Addr)(c:Nat)(b:List UInt8)(w:World):
  Calls Tryz.prog 76 #[.agg #[.int .i64 t, .slice a b.length c]] w fun e w'=>e= .returned (.bool (!bj (t,b)))/\Below w.heap.size w w':=by
 obtain⟨x,f⟩:∃x:Bool,oY t 1099511627776=x:=⟨_,rfl⟩
 obtain⟨y,k⟩:∃y:Bool,decide ((8192:Int)<(b.length:Int))=y:=⟨_,rfl⟩
 have d:decide (b.length<=8192)= !y:=by
  rw[<-k,Bool.eq_iff_iff]
  simp
  omega
 have g:(!bj (t,b))=(!(x && !y)):=by rw[<-f,<-d,oY,bj,Bool.and_assoc]
 rw[g];have HE:=Hh g;have i:=Hh f;have h:=Hh ((Below.refl _ w).alloc (Nat.le_refl _) (.cells #[.int .i64 t, .slice a b.length c] 40));clear g f d;cases x
 ·go_enter Tryz.func76,Tryz.ntmps76
  go_wp2_with fail;refine(bV _ _ _).mono ?_;rintro e j ⟨rfl,rfl⟩;rw[i.out];go_wp2;go_ret;exact⟨rfl,h.out⟩
 ·cases y
  all_goals
   go_enter Tryz.func76,Tryz.ntmps76
   go_wp2_with fail;refine(bV _ _ _).mono ?_;rintro e j ⟨rfl,rfl⟩;rw[i.out];go_wp2;go_ret;exact⟨rfl,h.out⟩
structure rF (g:Nat) (x:ax) (ia:Option Addr) (n ic:Nat) (ba:Option Addr) (bc:Nat) (W:World):Prop where
 g0:W.cell? ⟨g,0,none⟩=some (.int .i64 x.k)
 g1:W.cell? ⟨g,1,none⟩=some (.int .i64 x.t)
 g2:W.cell? ⟨g,2,none⟩=some (.int .i64 x.a)
 g3:W.cell? ⟨g,3,none⟩=some (.int .i64 x.u)
 g4:W.cell? ⟨g,4,none⟩=some (.int .i64 x.o)
 g5:W.cell? ⟨g,5,none⟩=some (.bool x.y)
 g6:W.cell? ⟨g,6,none⟩=some (.slice ia n ic)
 g7:W.cell? ⟨g,7,none⟩=some (.slice ba x.b.length bc)
theorem rF.of{g:Nat}{x:ax}{b:Option Addr}{n a:Nat}{ba:Option Addr}{c:Nat}{W:World}(h:W.heap[g]? =some (.cells (aF x b n a ba c) 32 (0,0))):rF g x b n a ba c W:=
 let ⟨h0,h1,h2,h3,h4,h5,h6,h7⟩:=aq h
 ⟨h0,h1,h2,h3,h4,h5,h6,h7⟩
theorem rF.set{g:Nat}{x:ax}{c:Option Addr}{n b:Nat}{ba:Option Addr}{d:Nat}{W:World}(h:rF g x c n b ba d W){u:Nat}(f:u≠g)(o:Nat)(v:Value):rF g x c n b ba d (W.setCell ⟨u,o,none⟩ v):=by
 have he:∀i,(W.setCell ⟨u,o,none⟩ v).cell? ⟨g,i,none⟩=W.cell? ⟨g,i,none⟩:=fun i=>World.cell?_of_block (a:=⟨g,i,none⟩) (Below.heap_setCell _ _ _ g (fun e=>f e.symm))
 exact⟨(he 0).trans h.g0,(he 1).trans h.g1,(he 2).trans h.g2,(he 3).trans h.g3,(he 4).trans h.g4,(he 5).trans h.g5,(he 6).trans h.g6,(he 7).trans h.g7⟩
def jO(x:ax)(w:World)(e:Ending)(w':World):Prop:=∃c b a f d,e= .returned (.agg (aF (dI x) c (List.length a) b f d))/\fo w' w'.heap.size (dI x) c b a f d/\Below w.heap.size w w'/\List.length a<=1000000
theorem io(w:World)(B:Nat):bd w B none ([]:List af).length 0 []:=⟨⟨by simp[aK],by simp,by simp[maxLen],fun _=>rfl,fun a=>by simp[aK]at a⟩,by simp⟩
theorem nJ(w:World)(B:Nat):aM w B none ([]:List UInt8).length 0 []:=aM.zero _ _ _ _ (by simp[maxLen]) (fun _=>rfl)
theorem sj(x:ax)(ia:Option Addr)(ic:Nat)(ms:List af)(ba:Option Addr)(bc:Nat)(hn:ms.length<=1000000)(w:World)(h:fo w w.heap.size x ia ic ms ba bc):
  Calls Tryz.prog 78 #[.agg (aF x ia ms.length ic ba bc)] w (jO x w):=by
 have H:=Hh h;obtain⟨zc,hzc⟩:∃zc:Array Value,zc=#[.int .i64 0, .int .i64 0, .int .i64 0, .int .i64 0, .int .i64 0, .bool false, .slice none 0 0, .slice none 0 0]:=⟨_,rfl⟩
 obtain⟨D,I⟩:∃D,D=((w.alloc (.cells (aF x ia ms.length ic ba bc) 32)).alloc (.cells #[.int .i64 0, .int .i64 0, .int .i64 0, .int .i64 0, .int .i64 0, .bool false, .slice none 0 0, .slice none 0 0] 32)).alloc (.cells #[.int .i64 x.k, .int .i64 x.t, .int .i64 0, .int .i64 0, .int .i64 0, .bool false, .slice none 0 0, .slice none 0 0] 32):=⟨_,rfl⟩
 have a0:=Hh I;have hs1:D.heap.size=w.heap.size+3:=by rw[I];simp
 have hb1:Below w.heap.size w D:=by rw[I];exact(((Below.refl _ _).alloc (Nat.le_refl _) _).alloc (by simp) _).alloc (by simp;omega) _
 have a3:=Hh (show D.heap[w.heap.size]? =some (.cells (aF x ia ms.length ic ba bc) 32 (0,0)) by rw[I];exact((((Below.refl _ _).alloc (Nat.le_refl (w.alloc (.cells (aF x ia ms.length ic ba bc) 32)).heap.size) _).alloc (by simp) _).block _ (by simp)).trans (heap_alloc_new w _))
 have a2:=Hh (show D.heap[w.heap.size+1]? =some (.cells #[.int .i64 0, .int .i64 0, .int .i64 0, .int .i64 0, .int .i64 0, .bool false, .slice none 0 0, .slice none 0 0] 32 (0,0)) by rw[I];refine(((Below.refl _ _).alloc (Nat.le_refl _) _).block (w.heap.size+1) (by simp)).trans ?_;have p:=heap_alloc_new (w.alloc (.cells (aF x ia ms.length ic ba bc) 32)) (.cells #[.int .i64 0, .int .i64 0, .int .i64 0, .int .i64 0, .int .i64 0, .bool false, .slice none 0 0, .slice none 0 0] 32);simpa using p)
 have a1:=Hh (show D.heap[w.heap.size+2]? =some (.cells #[.int .i64 x.k, .int .i64 x.t, .int .i64 0, .int .i64 0, .int .i64 0, .bool false, .slice none 0 0, .slice none 0 0] 32 (0,0)) by rw[I];have p:=heap_alloc_new ((w.alloc (.cells (aF x ia ms.length ic ba bc) 32)).alloc (.cells #[.int .i64 0, .int .i64 0, .int .i64 0, .int .i64 0, .int .i64 0, .bool false, .slice none 0 0, .slice none 0 0] 32)) (.cells #[.int .i64 x.k, .int .i64 x.t, .int .i64 0, .int .i64 0, .int .i64 0, .bool false, .slice none 0 0, .slice none 0 0] 32);simpa using p)
 have a4:=Hh hb1;clear I hb1 h hzc;by_cases e1:x.k=1
 ·have s1:(x.k==1)=true:=by simpa using e1
  have V:=Hh (show dI x=⟨x.k,x.t,x.a,x.u,0,false,[],[]⟩ by simp[dI,e1]);clear e1;go_enter Tryz.func78,Tryz.ntmps78
  go_wp2_with fail;rw[<-a0.out];refine fx (S:=rF w.heap.size x ia ms.length ic ba bc) ?_;obtain⟨X,r⟩:∃X,X=D.drew:=⟨_,rfl⟩
  refine(show wpAnyH _ _ _ _ _ _ _ _ D.drew from ?_);rw[<-r];have c:rF w.heap.size x ia ms.length ic ba bc X:=by rw[r];exact rF.of a3.out
  have R:Below (w.heap.size+2) D X:=by rw[r];exact(Below.refl _ _).drew
  have N:X.heap[w.heap.size+1]? =some (.cells #[.int .i64 0, .int .i64 0, .int .i64 0, .int .i64 0, .int .i64 0, .bool false, .slice none 0 0, .slice none 0 0] 32 (0,0)):=by rw[r];exact a2.out
  have C:X.heap[w.heap.size+2]? =some (.cells #[.int .i64 x.k, .int .i64 x.t, .int .i64 0, .int .i64 0, .int .i64 0, .bool false, .slice none 0 0, .slice none 0 0] 32 (0,0)):=by rw[r];exact a1.out
  clear r;refine hT 0 13 c ?_;refine hT 1 14 c ?_;refine hT 2 15 c ?_;refine hT 3 16 c ?_;refine hT 4 17 c ?_;refine bp 5 ?_;refine aj 3 (.tmp 17) (.tmp 14) rfl (w.heap.size+2) 2 (.int .i64 x.a) _ rfl rfl rfl eu (cell_of_row _ (w.heap.size+2) 2 _ _ _ C) (frozen_of_row _ _ _ _ _ C) ?_;have z:(X.setCell ⟨w.heap.size+2,2,none⟩ (.int .i64 x.a)).heap[w.heap.size+2]? =some (.cells #[.int .i64 x.k, .int .i64 x.t, .int .i64 x.a, .int .i64 0, .int .i64 0, .bool false, .slice none 0 0, .slice none 0 0] 32 (0,0)):=by have p:=heap_setCell_same X (w.heap.size+2) 2 _ _ (.int .i64 x.a) C;simpa using p
  have f:=c.set (u:=w.heap.size+2) (by omega) 2 (.int .i64 x.a);obtain⟨v,l⟩:∃Y,Y=X.setCell ⟨w.heap.size+2,2,none⟩ (.int .i64 x.a):=⟨_,rfl⟩
  have P:v.heap[w.heap.size+1]? =some (.cells #[.int .i64 0, .int .i64 0, .int .i64 0, .int .i64 0, .int .i64 0, .bool false, .slice none 0 0, .slice none 0 0] 32 (0,0)):=by rw[l];exact(Below.heap_setCell _ _ _ _ (by simp)).trans N
  have U:Below (w.heap.size+2) X v:=by rw[l];exact(Below.refl _ _).setCell (by simp) _
  rw[<-l]at z f ⊢;refine⟨f,?_⟩;clear l;go_simp;refine hT 6 18 f ?_;refine bp 7 ?_;refine aj 3 (.tmp 18) (.tmp 16) rfl (w.heap.size+2) 3 (.int .i64 x.u) _ rfl rfl rfl eu (cell_of_row _ (w.heap.size+2) 3 _ _ _ z) (frozen_of_row _ _ _ _ _ z) ?_;have A:(v.setCell ⟨w.heap.size+2,3,none⟩ (.int .i64 x.u)).heap[w.heap.size+2]? =some (.cells #[.int .i64 x.k, .int .i64 x.t, .int .i64 x.a, .int .i64 x.u, .int .i64 0, .bool false, .slice none 0 0, .slice none 0 0] 32 (0,0)):=by have p:=heap_setCell_same v (w.heap.size+2) 3 _ _ (.int .i64 x.u) z;simpa using p
  have g:=f.set (u:=w.heap.size+2) (by omega) 3 (.int .i64 x.u);obtain⟨i,j⟩:∃Y,Y=v.setCell ⟨w.heap.size+2,3,none⟩ (.int .i64 x.u):=⟨_,rfl⟩
  have O:i.heap[w.heap.size+1]? =some (.cells #[.int .i64 0, .int .i64 0, .int .i64 0, .int .i64 0, .int .i64 0, .bool false, .slice none 0 0, .slice none 0 0] 32 (0,0)):=by rw[j];exact(Below.heap_setCell _ _ _ _ (by simp)).trans P
  have T:Below (w.heap.size+2) v i:=by rw[j];exact(Below.refl _ _).setCell (by simp) _
  rw[<-j]at A g ⊢;refine⟨g,?_⟩;clear j;refine dc ?_;have d:=Hh (show i.heap[w.heap.size+2]? =some (.cells #[.int .i64 x.k, .int .i64 x.t, .int .i64 x.a, .int .i64 x.u, .int .i64 0, .bool false, .slice none 0 0, .slice none 0 0] 32 (0,0)) from A);have J:=Hh (show i.heap[w.heap.size+1]? =some (.cells #[.int .i64 0, .int .i64 0, .int .i64 0, .int .i64 0, .int .i64 0, .bool false, .slice none 0 0, .slice none 0 0] 32 (0,0)) from O);have L:=Hh (show Below w.heap.size w i from a4.out.trans ((R.trans (U.trans T)).mono (by omega)));clear C z A c f g P U O T R N;obtain⟨c0,c1,c2,c3,c4,c5,c6,c7⟩:i.cell? ⟨w.heap.size+2,0,none⟩=some (.int .i64 x.k)/\i.cell? ⟨w.heap.size+2,1,none⟩=some (.int .i64 x.t)/\i.cell? ⟨w.heap.size+2,2,none⟩=some (.int .i64 x.a)/\i.cell? ⟨w.heap.size+2,3,none⟩=some (.int .i64 x.u)/\i.cell? ⟨w.heap.size+2,4,none⟩=some (.int .i64 0)/\i.cell? ⟨w.heap.size+2,5,none⟩=some (.bool false)/\i.cell? ⟨w.heap.size+2,6,none⟩=some (.slice none 0 0)/\i.cell? ⟨w.heap.size+2,7,none⟩=some (.slice none 0 0):=⟨cell_of_row i _ 0 _ _ _ d.out,cell_of_row i _ 1 _ _ _ d.out,cell_of_row i _ 2 _ _ _ d.out,cell_of_row i _ 3 _ _ _ d.out,cell_of_row i _ 4 _ _ _ d.out,cell_of_row i _ 5 _ _ _ d.out,cell_of_row i _ 6 _ _ _ d.out,cell_of_row i _ 7 _ _ _ d.out⟩
  go_wp2_with (refine aI rfl 32 (.tmp 2) (.tmp 60) rfl (w.heap.size+1) #[.int .i64 x.k, .int .i64 x.t, .int .i64 x.a, .int .i64 x.u, .int .i64 0, .bool false, .slice none 0 0, .slice none 0 0] rfl rfl 32 _ J.out aR rfl (by simp[Value.oneCell']) ?_;intro W9 m F G hs9);have n:=L.out.trans (G.mono (show w.heap.size<=w.heap.size+1 by omega));refine bodyPost_ret (results_cell_row rfl _ _ (w.heap.size+1) 32 _ (0,0) _ rfl m Tryz.underlying32 rfl aR) rfl ?_;unfold jO;rw[V.out];refine⟨none,0,[],none,0,rfl,⟨io _ _,rfl,nJ _ _⟩,n,by simp⟩
 ·have W:¬x.k=1:=e1;have s1:(x.k==1)=false:=by simpa using e1
  clear e1;by_cases e2:x.k=2
  ·have s2:(x.k==2)=true:=by simpa using e2
   have V:=Hh (show dI x=⟨x.k,x.t,0,0,0,x.y,[],[]⟩ by simp[dI,W,e2]);clear W e2;go_enter Tryz.func78,Tryz.ntmps78
   go_wp2_with fail;have hrF:(((w.alloc (.cells (aF x ia ms.length ic ba bc) 32)).alloc (.cells #[.int .i64 x.k, .int .i64 x.t, .int .i64 0, .int .i64 0, .int .i64 0, .bool x.y, .slice none 0 0, .slice none 0 0] 32)).alloc (.cells #[.int .i64 x.k, .int .i64 x.t, .int .i64 0, .int .i64 0, .int .i64 0, .bool x.y, .slice none 0 0, .slice none 0 0] 32)).heap[w.heap.size+1]? =some (.cells #[.int .i64 x.k, .int .i64 x.t, .int .i64 0, .int .i64 0, .int .i64 0, .bool x.y, .slice none 0 0, .slice none 0 0] 32 (0,0)):=by refine(((Below.refl _ _).alloc (Nat.le_refl _) _).block (w.heap.size+1) (by simp)).trans ?_;have p:=heap_alloc_new (w.alloc (.cells (aF x ia ms.length ic ba bc) 32)) (.cells #[.int .i64 x.k, .int .i64 x.t, .int .i64 0, .int .i64 0, .int .i64 0, .bool x.y, .slice none 0 0, .slice none 0 0] 32);simpa using p
   have n:Below w.heap.size w (((w.alloc (.cells (aF x ia ms.length ic ba bc) 32)).alloc (.cells #[.int .i64 x.k, .int .i64 x.t, .int .i64 0, .int .i64 0, .int .i64 0, .bool x.y, .slice none 0 0, .slice none 0 0] 32)).alloc (.cells #[.int .i64 x.k, .int .i64 x.t, .int .i64 0, .int .i64 0, .int .i64 0, .bool x.y, .slice none 0 0, .slice none 0 0] 32)):=(((Below.refl _ _).alloc (Nat.le_refl _) _).alloc (by simp) _).alloc (by simp;omega) _;refine bodyPost_ret (results_cell_row rfl _ _ (w.heap.size+1) 32 _ (0,0) _ rfl hrF Tryz.underlying32 rfl aR) rfl ?_;unfold jO;rw[V.out];exact⟨none,0,[],none,0,rfl,⟨io _ _,rfl,nJ _ _⟩,n,by simp⟩
  ·have n2:¬x.k=2:=e2;have s2:(x.k==2)=false:=by simpa using e2
   clear e2;by_cases e3:x.k=3
   ·have s3:(x.k==3)=true:=by simpa using e3
    have V:=Hh (show dI x=⟨x.k,x.t,x.a,x.u,x.o,false,x.its,[]⟩ by simp[dI,W,n2,e3]);clear W n2 e3;go_enter Tryz.func78,Tryz.ntmps78
    go_wp2_with fail;rw[<-a0.out];refine fx (S:=rF w.heap.size x ia ms.length ic ba bc) ?_;obtain⟨X,r⟩:∃X,X=D.drew:=⟨_,rfl⟩
    refine(show wpAnyH _ _ _ _ _ _ _ _ D.drew from ?_);rw[<-r];have c:rF w.heap.size x ia ms.length ic ba bc X:=by rw[r];exact rF.of a3.out
    have R:Below (w.heap.size+2) D X:=by rw[r];exact(Below.refl _ _).drew
    have N:X.heap[w.heap.size+1]? =some (.cells #[.int .i64 0, .int .i64 0, .int .i64 0, .int .i64 0, .int .i64 0, .bool false, .slice none 0 0, .slice none 0 0] 32 (0,0)):=by rw[r];exact a2.out
    have C:X.heap[w.heap.size+2]? =some (.cells #[.int .i64 x.k, .int .i64 x.t, .int .i64 0, .int .i64 0, .int .i64 0, .bool false, .slice none 0 0, .slice none 0 0] 32 (0,0)):=by rw[r];exact a1.out
    clear r;refine hT 0 26 c ?_;refine hT 1 27 c ?_;refine hT 2 28 c ?_;refine hT 3 29 c ?_;refine hT 4 30 c ?_;refine hT 5 31 c ?_;refine hT 6 32 c ?_;refine hT 7 33 c ?_;refine hT 8 34 c ?_;refine bp 9 ?_;refine aj 3 (.tmp 34) (.tmp 27) rfl (w.heap.size+2) 2 (.int .i64 x.a) _ rfl rfl rfl eu (cell_of_row _ (w.heap.size+2) 2 _ _ _ C) (frozen_of_row _ _ _ _ _ C) ?_;have z:(X.setCell ⟨w.heap.size+2,2,none⟩ (.int .i64 x.a)).heap[w.heap.size+2]? =some (.cells #[.int .i64 x.k, .int .i64 x.t, .int .i64 x.a, .int .i64 0, .int .i64 0, .bool false, .slice none 0 0, .slice none 0 0] 32 (0,0)):=by have p:=heap_setCell_same X (w.heap.size+2) 2 _ _ (.int .i64 x.a) C;simpa using p
    have f:=c.set (u:=w.heap.size+2) (by omega) 2 (.int .i64 x.a);obtain⟨v,l⟩:∃Y,Y=X.setCell ⟨w.heap.size+2,2,none⟩ (.int .i64 x.a):=⟨_,rfl⟩
    have P:v.heap[w.heap.size+1]? =some (.cells #[.int .i64 0, .int .i64 0, .int .i64 0, .int .i64 0, .int .i64 0, .bool false, .slice none 0 0, .slice none 0 0] 32 (0,0)):=by rw[l];exact(Below.heap_setCell _ _ _ _ (by simp)).trans N
    have U:Below (w.heap.size+2) X v:=by rw[l];exact(Below.refl _ _).setCell (by simp) _
    rw[<-l]at z f ⊢;refine⟨f,?_⟩;clear l;go_simp;refine hT 10 35 f ?_;refine bp 11 ?_;refine aj 3 (.tmp 35) (.tmp 29) rfl (w.heap.size+2) 3 (.int .i64 x.u) _ rfl rfl rfl eu (cell_of_row _ (w.heap.size+2) 3 _ _ _ z) (frozen_of_row _ _ _ _ _ z) ?_;have A:(v.setCell ⟨w.heap.size+2,3,none⟩ (.int .i64 x.u)).heap[w.heap.size+2]? =some (.cells #[.int .i64 x.k, .int .i64 x.t, .int .i64 x.a, .int .i64 x.u, .int .i64 0, .bool false, .slice none 0 0, .slice none 0 0] 32 (0,0)):=by have p:=heap_setCell_same v (w.heap.size+2) 3 _ _ (.int .i64 x.u) z;simpa using p
    have g:=f.set (u:=w.heap.size+2) (by omega) 3 (.int .i64 x.u);obtain⟨i,j⟩:∃Y,Y=v.setCell ⟨w.heap.size+2,3,none⟩ (.int .i64 x.u):=⟨_,rfl⟩
    have O:i.heap[w.heap.size+1]? =some (.cells #[.int .i64 0, .int .i64 0, .int .i64 0, .int .i64 0, .int .i64 0, .bool false, .slice none 0 0, .slice none 0 0] 32 (0,0)):=by rw[j];exact(Below.heap_setCell _ _ _ _ (by simp)).trans P
    have T:Below (w.heap.size+2) v i:=by rw[j];exact(Below.refl _ _).setCell (by simp) _
    rw[<-j]at A g ⊢;refine⟨g,?_⟩;clear j;go_simp;refine hT 12 36 g ?_;refine bp 13 ?_;refine aj 3 (.tmp 36) (.tmp 31) rfl (w.heap.size+2) 4 (.int .i64 x.o) _ rfl rfl rfl eu (cell_of_row _ (w.heap.size+2) 4 _ _ _ A) (frozen_of_row _ _ _ _ _ A) ?_;have M:(i.setCell ⟨w.heap.size+2,4,none⟩ (.int .i64 x.o)).heap[w.heap.size+2]? =some (.cells #[.int .i64 x.k, .int .i64 x.t, .int .i64 x.a, .int .i64 x.u, .int .i64 x.o, .bool false, .slice none 0 0, .slice none 0 0] 32 (0,0)):=by have p:=heap_setCell_same i (w.heap.size+2) 4 _ _ (.int .i64 x.o) A;simpa using p
    have s:=g.set (u:=w.heap.size+2) (by omega) 4 (.int .i64 x.o);obtain⟨e,q⟩:∃Y,Y=i.setCell ⟨w.heap.size+2,4,none⟩ (.int .i64 x.o):=⟨_,rfl⟩
    have o3:e.heap[w.heap.size+1]? =some (.cells #[.int .i64 0, .int .i64 0, .int .i64 0, .int .i64 0, .int .i64 0, .bool false, .slice none 0 0, .slice none 0 0] 32 (0,0)):=by rw[q];exact(Below.heap_setCell _ _ _ _ (by simp)).trans O
    have b3:Below (w.heap.size+2) i e:=by rw[q];exact(Below.refl _ _).setCell (by simp) _
    rw[<-q]at M s ⊢;refine⟨s,?_⟩;clear q;go_simp;refine hT 14 37 s ?_;refine bp 15 ?_;refine aj 30 (.tmp 37) (.tmp 33) rfl (w.heap.size+2) 6 (.slice ia ms.length ic) _ rfl rfl rfl nA (cell_of_row _ (w.heap.size+2) 6 _ _ _ M) (frozen_of_row _ _ _ _ _ M) ?_;have r4:(e.setCell ⟨w.heap.size+2,6,none⟩ (.slice ia ms.length ic)).heap[w.heap.size+2]? =some (.cells #[.int .i64 x.k, .int .i64 x.t, .int .i64 x.a, .int .i64 x.u, .int .i64 x.o, .bool false, .slice ia ms.length ic, .slice none 0 0] 32 (0,0)):=by have p:=heap_setCell_same e (w.heap.size+2) 6 _ _ (.slice ia ms.length ic) M;simpa using p
    have hS4:=s.set (u:=w.heap.size+2) (by omega) 6 (.slice ia ms.length ic);obtain⟨B,Z⟩:∃Y,Y=e.setCell ⟨w.heap.size+2,6,none⟩ (.slice ia ms.length ic):=⟨_,rfl⟩
    have o4:B.heap[w.heap.size+1]? =some (.cells #[.int .i64 0, .int .i64 0, .int .i64 0, .int .i64 0, .int .i64 0, .bool false, .slice none 0 0, .slice none 0 0] 32 (0,0)):=by rw[Z];exact(Below.heap_setCell _ _ _ _ (by simp)).trans o3
    have b4:Below (w.heap.size+2) e B:=by rw[Z];exact(Below.refl _ _).setCell (by simp) _
    rw[<-Z]at r4 hS4 ⊢;refine⟨hS4,?_⟩;clear Z;refine dc ?_;have d:=Hh (show B.heap[w.heap.size+2]? =some (.cells #[.int .i64 x.k, .int .i64 x.t, .int .i64 x.a, .int .i64 x.u, .int .i64 x.o, .bool false, .slice ia ms.length ic, .slice none 0 0] 32 (0,0)) from r4);have J:=Hh (show B.heap[w.heap.size+1]? =some (.cells #[.int .i64 0, .int .i64 0, .int .i64 0, .int .i64 0, .int .i64 0, .bool false, .slice none 0 0, .slice none 0 0] 32 (0,0)) from o4);have L:=Hh (show Below w.heap.size w B from a4.out.trans ((R.trans (((U.trans T).trans b3).trans b4)).mono (by omega)));clear C z A M r4 c f g s hS4 P U O T o3 b3 o4 b4 R N;obtain⟨c0,c1,c2,c3,c4,c5,c6,c7⟩:B.cell? ⟨w.heap.size+2,0,none⟩=some (.int .i64 x.k)/\B.cell? ⟨w.heap.size+2,1,none⟩=some (.int .i64 x.t)/\B.cell? ⟨w.heap.size+2,2,none⟩=some (.int .i64 x.a)/\B.cell? ⟨w.heap.size+2,3,none⟩=some (.int .i64 x.u)/\B.cell? ⟨w.heap.size+2,4,none⟩=some (.int .i64 x.o)/\B.cell? ⟨w.heap.size+2,5,none⟩=some (.bool false)/\B.cell? ⟨w.heap.size+2,6,none⟩=some (.slice ia ms.length ic)/\B.cell? ⟨w.heap.size+2,7,none⟩=some (.slice none 0 0):=⟨cell_of_row B _ 0 _ _ _ d.out,cell_of_row B _ 1 _ _ _ d.out,cell_of_row B _ 2 _ _ _ d.out,cell_of_row B _ 3 _ _ _ d.out,cell_of_row B _ 4 _ _ _ d.out,cell_of_row B _ 5 _ _ _ d.out,cell_of_row B _ 6 _ _ _ d.out,cell_of_row B _ 7 _ _ _ d.out⟩
    go_wp2_with (refine aI rfl 32 (.tmp 2) (.tmp 60) rfl (w.heap.size+1) #[.int .i64 x.k, .int .i64 x.t, .int .i64 x.a, .int .i64 x.u, .int .i64 x.o, .bool false, .slice ia ms.length ic, .slice none 0 0] rfl rfl 32 _ J.out aR rfl (by simp[Value.oneCell']) ?_;intro W9 m F G hs9);have n:=L.out.trans (G.mono (show w.heap.size<=w.heap.size+1 by omega));refine bodyPost_ret (results_cell_row rfl _ _ (w.heap.size+1) 32 _ (0,0) _ rfl m Tryz.underlying32 rfl aR) rfl ?_;unfold jO;rw[V.out];refine⟨ia,ic,ms,none,0,rfl,⟨(H.out.its.below n (Nat.le_refl _)).mono n.size,H.out.eq,nJ _ _⟩,n,hn⟩
   ·have n3:¬x.k=3:=e3;have s3:(x.k==3)=false:=by simpa using e3
    clear e3;by_cases e4:x.k=4
    ·have s4:(x.k==4)=true:=by simpa using e4
     have V:=Hh (show dI x=⟨x.k,x.t,x.a,0,x.o,x.y,[],[]⟩ by simp[dI,W,n2,n3,e4]);clear W n2 n3 e4;go_enter Tryz.func78,Tryz.ntmps78
     go_wp2_with fail;rw[<-a0.out];refine fx (S:=rF w.heap.size x ia ms.length ic ba bc) ?_;obtain⟨X,r⟩:∃X,X=D.drew:=⟨_,rfl⟩
     refine(show wpAnyH _ _ _ _ _ _ _ _ D.drew from ?_);rw[<-r];have c:rF w.heap.size x ia ms.length ic ba bc X:=by rw[r];exact rF.of a3.out
     have R:Below (w.heap.size+2) D X:=by rw[r];exact(Below.refl _ _).drew
     have N:X.heap[w.heap.size+1]? =some (.cells #[.int .i64 0, .int .i64 0, .int .i64 0, .int .i64 0, .int .i64 0, .bool false, .slice none 0 0, .slice none 0 0] 32 (0,0)):=by rw[r];exact a2.out
     have C:X.heap[w.heap.size+2]? =some (.cells #[.int .i64 x.k, .int .i64 x.t, .int .i64 0, .int .i64 0, .int .i64 0, .bool false, .slice none 0 0, .slice none 0 0] 32 (0,0)):=by rw[r];exact a1.out
     clear r;refine hT 0 40 c ?_;refine hT 1 41 c ?_;refine hT 2 42 c ?_;refine hT 3 43 c ?_;refine hT 4 44 c ?_;refine hT 5 45 c ?_;refine hT 6 46 c ?_;refine bp 7 ?_;refine aj 4 (.tmp 46) (.tmp 41) rfl (w.heap.size+2) 5 (.bool x.y) _ rfl rfl rfl iL (cell_of_row _ (w.heap.size+2) 5 _ _ _ C) (frozen_of_row _ _ _ _ _ C) ?_;have z:(X.setCell ⟨w.heap.size+2,5,none⟩ (.bool x.y)).heap[w.heap.size+2]? =some (.cells #[.int .i64 x.k, .int .i64 x.t, .int .i64 0, .int .i64 0, .int .i64 0, .bool x.y, .slice none 0 0, .slice none 0 0] 32 (0,0)):=by have p:=heap_setCell_same X (w.heap.size+2) 5 _ _ (.bool x.y) C;simpa using p
     have f:=c.set (u:=w.heap.size+2) (by omega) 5 (.bool x.y);obtain⟨v,l⟩:∃Y,Y=X.setCell ⟨w.heap.size+2,5,none⟩ (.bool x.y):=⟨_,rfl⟩
     have P:v.heap[w.heap.size+1]? =some (.cells #[.int .i64 0, .int .i64 0, .int .i64 0, .int .i64 0, .int .i64 0, .bool false, .slice none 0 0, .slice none 0 0] 32 (0,0)):=by rw[l];exact(Below.heap_setCell _ _ _ _ (by simp)).trans N
     have U:Below (w.heap.size+2) X v:=by rw[l];exact(Below.refl _ _).setCell (by simp) _
     rw[<-l]at z f ⊢;refine⟨f,?_⟩;clear l;go_simp;refine hT 8 47 f ?_;refine bp 9 ?_;refine aj 3 (.tmp 47) (.tmp 43) rfl (w.heap.size+2) 2 (.int .i64 x.a) _ rfl rfl rfl eu (cell_of_row _ (w.heap.size+2) 2 _ _ _ z) (frozen_of_row _ _ _ _ _ z) ?_;have A:(v.setCell ⟨w.heap.size+2,2,none⟩ (.int .i64 x.a)).heap[w.heap.size+2]? =some (.cells #[.int .i64 x.k, .int .i64 x.t, .int .i64 x.a, .int .i64 0, .int .i64 0, .bool x.y, .slice none 0 0, .slice none 0 0] 32 (0,0)):=by have p:=heap_setCell_same v (w.heap.size+2) 2 _ _ (.int .i64 x.a) z;simpa using p
     have g:=f.set (u:=w.heap.size+2) (by omega) 2 (.int .i64 x.a);obtain⟨i,j⟩:∃Y,Y=v.setCell ⟨w.heap.size+2,2,none⟩ (.int .i64 x.a):=⟨_,rfl⟩
     have O:i.heap[w.heap.size+1]? =some (.cells #[.int .i64 0, .int .i64 0, .int .i64 0, .int .i64 0, .int .i64 0, .bool false, .slice none 0 0, .slice none 0 0] 32 (0,0)):=by rw[j];exact(Below.heap_setCell _ _ _ _ (by simp)).trans P
     have T:Below (w.heap.size+2) v i:=by rw[j];exact(Below.refl _ _).setCell (by simp) _
     rw[<-j]at A g ⊢;refine⟨g,?_⟩;clear j;go_simp;refine hT 10 48 g ?_;refine bp 11 ?_;refine aj 3 (.tmp 48) (.tmp 45) rfl (w.heap.size+2) 4 (.int .i64 x.o) _ rfl rfl rfl eu (cell_of_row _ (w.heap.size+2) 4 _ _ _ A) (frozen_of_row _ _ _ _ _ A) ?_;have M:(i.setCell ⟨w.heap.size+2,4,none⟩ (.int .i64 x.o)).heap[w.heap.size+2]? =some (.cells #[.int .i64 x.k, .int .i64 x.t, .int .i64 x.a, .int .i64 0, .int .i64 x.o, .bool x.y, .slice none 0 0, .slice none 0 0] 32 (0,0)):=by have p:=heap_setCell_same i (w.heap.size+2) 4 _ _ (.int .i64 x.o) A;simpa using p
     have s:=g.set (u:=w.heap.size+2) (by omega) 4 (.int .i64 x.o);obtain⟨e,q⟩:∃Y,Y=i.setCell ⟨w.heap.size+2,4,none⟩ (.int .i64 x.o):=⟨_,rfl⟩
     have o3:e.heap[w.heap.size+1]? =some (.cells #[.int .i64 0, .int .i64 0, .int .i64 0, .int .i64 0, .int .i64 0, .bool false, .slice none 0 0, .slice none 0 0] 32 (0,0)):=by rw[q];exact(Below.heap_setCell _ _ _ _ (by simp)).trans O
     have b3:Below (w.heap.size+2) i e:=by rw[q];exact(Below.refl _ _).setCell (by simp) _
     rw[<-q]at M s ⊢;refine⟨s,?_⟩;clear q;refine dc ?_;have d:=Hh (show e.heap[w.heap.size+2]? =some (.cells #[.int .i64 x.k, .int .i64 x.t, .int .i64 x.a, .int .i64 0, .int .i64 x.o, .bool x.y, .slice none 0 0, .slice none 0 0] 32 (0,0)) from M);have J:=Hh (show e.heap[w.heap.size+1]? =some (.cells #[.int .i64 0, .int .i64 0, .int .i64 0, .int .i64 0, .int .i64 0, .bool false, .slice none 0 0, .slice none 0 0] 32 (0,0)) from o3);have L:=Hh (show Below w.heap.size w e from a4.out.trans ((R.trans ((U.trans T).trans b3)).mono (by omega)));clear C z A M c f g s P U O T o3 b3 R N;obtain⟨c0,c1,c2,c3,c4,c5,c6,c7⟩:e.cell? ⟨w.heap.size+2,0,none⟩=some (.int .i64 x.k)/\e.cell? ⟨w.heap.size+2,1,none⟩=some (.int .i64 x.t)/\e.cell? ⟨w.heap.size+2,2,none⟩=some (.int .i64 x.a)/\e.cell? ⟨w.heap.size+2,3,none⟩=some (.int .i64 0)/\e.cell? ⟨w.heap.size+2,4,none⟩=some (.int .i64 x.o)/\e.cell? ⟨w.heap.size+2,5,none⟩=some (.bool x.y)/\e.cell? ⟨w.heap.size+2,6,none⟩=some (.slice none 0 0)/\e.cell? ⟨w.heap.size+2,7,none⟩=some (.slice none 0 0):=⟨cell_of_row e _ 0 _ _ _ d.out,cell_of_row e _ 1 _ _ _ d.out,cell_of_row e _ 2 _ _ _ d.out,cell_of_row e _ 3 _ _ _ d.out,cell_of_row e _ 4 _ _ _ d.out,cell_of_row e _ 5 _ _ _ d.out,cell_of_row e _ 6 _ _ _ d.out,cell_of_row e _ 7 _ _ _ d.out⟩
     go_wp2_with (refine aI rfl 32 (.tmp 2) (.tmp 60) rfl (w.heap.size+1) #[.int .i64 x.k, .int .i64 x.t, .int .i64 x.a, .int .i64 0, .int .i64 x.o, .bool x.y, .slice none 0 0, .slice none 0 0] rfl rfl 32 _ J.out aR rfl (by simp[Value.oneCell']) ?_;intro W9 m F G hs9);have n:=L.out.trans (G.mono (show w.heap.size<=w.heap.size+1 by omega));refine bodyPost_ret (results_cell_row rfl _ _ (w.heap.size+1) 32 _ (0,0) _ rfl m Tryz.underlying32 rfl aR) rfl ?_;unfold jO;rw[V.out];refine⟨none,0,[],none,0,rfl,⟨io _ _,rfl,nJ _ _⟩,n,by simp⟩
    ·have n4:¬x.k=4:=e4;have s4:(x.k==4)=false:=by simpa using e4
     clear e4;by_cases e5:x.k=5
     ·have s5:(x.k==5)=true:=by simpa using e5
      have V:=Hh (show dI x=⟨x.k,x.t,x.a,x.u,0,false,[],x.b⟩ by simp[dI,W,n2,n3,n4,e5]);clear W n2 n3 n4 e5;go_enter Tryz.func78,Tryz.ntmps78
      go_wp2_with fail;rw[<-a0.out];refine fx (S:=rF w.heap.size x ia ms.length ic ba bc) ?_;obtain⟨X,r⟩:∃X,X=D.drew:=⟨_,rfl⟩
      refine(show wpAnyH _ _ _ _ _ _ _ _ D.drew from ?_);rw[<-r];have c:rF w.heap.size x ia ms.length ic ba bc X:=by rw[r];exact rF.of a3.out
      have R:Below (w.heap.size+2) D X:=by rw[r];exact(Below.refl _ _).drew
      have N:X.heap[w.heap.size+1]? =some (.cells #[.int .i64 0, .int .i64 0, .int .i64 0, .int .i64 0, .int .i64 0, .bool false, .slice none 0 0, .slice none 0 0] 32 (0,0)):=by rw[r];exact a2.out
      have C:X.heap[w.heap.size+2]? =some (.cells #[.int .i64 x.k, .int .i64 x.t, .int .i64 0, .int .i64 0, .int .i64 0, .bool false, .slice none 0 0, .slice none 0 0] 32 (0,0)):=by rw[r];exact a1.out
      clear r;refine hT 0 51 c ?_;refine hT 1 52 c ?_;refine hT 2 53 c ?_;refine hT 3 54 c ?_;refine hT 4 55 c ?_;refine hT 5 56 c ?_;refine hT 6 57 c ?_;refine bp 7 ?_;refine aj 3 (.tmp 57) (.tmp 52) rfl (w.heap.size+2) 2 (.int .i64 x.a) _ rfl rfl rfl eu (cell_of_row _ (w.heap.size+2) 2 _ _ _ C) (frozen_of_row _ _ _ _ _ C) ?_;have z:(X.setCell ⟨w.heap.size+2,2,none⟩ (.int .i64 x.a)).heap[w.heap.size+2]? =some (.cells #[.int .i64 x.k, .int .i64 x.t, .int .i64 x.a, .int .i64 0, .int .i64 0, .bool false, .slice none 0 0, .slice none 0 0] 32 (0,0)):=by have p:=heap_setCell_same X (w.heap.size+2) 2 _ _ (.int .i64 x.a) C;simpa using p
      have f:=c.set (u:=w.heap.size+2) (by omega) 2 (.int .i64 x.a);obtain⟨v,l⟩:∃Y,Y=X.setCell ⟨w.heap.size+2,2,none⟩ (.int .i64 x.a):=⟨_,rfl⟩
      have P:v.heap[w.heap.size+1]? =some (.cells #[.int .i64 0, .int .i64 0, .int .i64 0, .int .i64 0, .int .i64 0, .bool false, .slice none 0 0, .slice none 0 0] 32 (0,0)):=by rw[l];exact(Below.heap_setCell _ _ _ _ (by simp)).trans N
      have U:Below (w.heap.size+2) X v:=by rw[l];exact(Below.refl _ _).setCell (by simp) _
      rw[<-l]at z f ⊢;refine⟨f,?_⟩;clear l;go_simp;refine hT 8 58 f ?_;refine bp 9 ?_;refine aj 3 (.tmp 58) (.tmp 54) rfl (w.heap.size+2) 3 (.int .i64 x.u) _ rfl rfl rfl eu (cell_of_row _ (w.heap.size+2) 3 _ _ _ z) (frozen_of_row _ _ _ _ _ z) ?_;have A:(v.setCell ⟨w.heap.size+2,3,none⟩ (.int .i64 x.u)).heap[w.heap.size+2]? =some (.cells #[.int .i64 x.k, .int .i64 x.t, .int .i64 x.a, .int .i64 x.u, .int .i64 0, .bool false, .slice none 0 0, .slice none 0 0] 32 (0,0)):=by have p:=heap_setCell_same v (w.heap.size+2) 3 _ _ (.int .i64 x.u) z;simpa using p
      have g:=f.set (u:=w.heap.size+2) (by omega) 3 (.int .i64 x.u);obtain⟨i,j⟩:∃Y,Y=v.setCell ⟨w.heap.size+2,3,none⟩ (.int .i64 x.u):=⟨_,rfl⟩
      have O:i.heap[w.heap.size+1]? =some (.cells #[.int .i64 0, .int .i64 0, .int .i64 0, .int .i64 0, .int .i64 0, .bool false, .slice none 0 0, .slice none 0 0] 32 (0,0)):=by rw[j];exact(Below.heap_setCell _ _ _ _ (by simp)).trans P
      have T:Below (w.heap.size+2) v i:=by rw[j];exact(Below.refl _ _).setCell (by simp) _
      rw[<-j]at A g ⊢;refine⟨g,?_⟩;clear j;go_simp;refine hT 10 59 g ?_;refine bp 11 ?_;refine aj 27 (.tmp 59) (.tmp 56) rfl (w.heap.size+2) 7 (.slice ba x.b.length bc) _ rfl rfl rfl sy (cell_of_row _ (w.heap.size+2) 7 _ _ _ A) (frozen_of_row _ _ _ _ _ A) ?_;have M:(i.setCell ⟨w.heap.size+2,7,none⟩ (.slice ba x.b.length bc)).heap[w.heap.size+2]? =some (.cells #[.int .i64 x.k, .int .i64 x.t, .int .i64 x.a, .int .i64 x.u, .int .i64 0, .bool false, .slice none 0 0, .slice ba x.b.length bc] 32 (0,0)):=by have p:=heap_setCell_same i (w.heap.size+2) 7 _ _ (.slice ba x.b.length bc) A;simpa using p
      have s:=g.set (u:=w.heap.size+2) (by omega) 7 (.slice ba x.b.length bc);obtain⟨e,q⟩:∃Y,Y=i.setCell ⟨w.heap.size+2,7,none⟩ (.slice ba x.b.length bc):=⟨_,rfl⟩
      have o3:e.heap[w.heap.size+1]? =some (.cells #[.int .i64 0, .int .i64 0, .int .i64 0, .int .i64 0, .int .i64 0, .bool false, .slice none 0 0, .slice none 0 0] 32 (0,0)):=by rw[q];exact(Below.heap_setCell _ _ _ _ (by simp)).trans O
      have b3:Below (w.heap.size+2) i e:=by rw[q];exact(Below.refl _ _).setCell (by simp) _
      rw[<-q]at M s ⊢;refine⟨s,?_⟩;clear q;refine dc ?_;have d:=Hh (show e.heap[w.heap.size+2]? =some (.cells #[.int .i64 x.k, .int .i64 x.t, .int .i64 x.a, .int .i64 x.u, .int .i64 0, .bool false, .slice none 0 0, .slice ba x.b.length bc] 32 (0,0)) from M);have J:=Hh (show e.heap[w.heap.size+1]? =some (.cells #[.int .i64 0, .int .i64 0, .int .i64 0, .int .i64 0, .int .i64 0, .bool false, .slice none 0 0, .slice none 0 0] 32 (0,0)) from o3);have L:=Hh (show Below w.heap.size w e from a4.out.trans ((R.trans ((U.trans T).trans b3)).mono (by omega)));clear C z A M c f g s P U O T o3 b3 R N;obtain⟨c0,c1,c2,c3,c4,c5,c6,c7⟩:e.cell? ⟨w.heap.size+2,0,none⟩=some (.int .i64 x.k)/\e.cell? ⟨w.heap.size+2,1,none⟩=some (.int .i64 x.t)/\e.cell? ⟨w.heap.size+2,2,none⟩=some (.int .i64 x.a)/\e.cell? ⟨w.heap.size+2,3,none⟩=some (.int .i64 x.u)/\e.cell? ⟨w.heap.size+2,4,none⟩=some (.int .i64 0)/\e.cell? ⟨w.heap.size+2,5,none⟩=some (.bool false)/\e.cell? ⟨w.heap.size+2,6,none⟩=some (.slice none 0 0)/\e.cell? ⟨w.heap.size+2,7,none⟩=some (.slice ba x.b.length bc):=⟨cell_of_row e _ 0 _ _ _ d.out,cell_of_row e _ 1 _ _ _ d.out,cell_of_row e _ 2 _ _ _ d.out,cell_of_row e _ 3 _ _ _ d.out,cell_of_row e _ 4 _ _ _ d.out,cell_of_row e _ 5 _ _ _ d.out,cell_of_row e _ 6 _ _ _ d.out,cell_of_row e _ 7 _ _ _ d.out⟩
      go_wp2_with (refine aI rfl 32 (.tmp 2) (.tmp 60) rfl (w.heap.size+1) #[.int .i64 x.k, .int .i64 x.t, .int .i64 x.a, .int .i64 x.u, .int .i64 0, .bool false, .slice none 0 0, .slice ba x.b.length bc] rfl rfl 32 _ J.out aR rfl (by simp[Value.oneCell']) ?_;intro W9 m F G hs9);have n:=L.out.trans (G.mono (show w.heap.size<=w.heap.size+1 by omega));refine bodyPost_ret (results_cell_row rfl _ _ (w.heap.size+1) 32 _ (0,0) _ rfl m Tryz.underlying32 rfl aR) rfl ?_;unfold jO;rw[V.out];refine⟨none,0,[],ba,bc,rfl,⟨io _ _,rfl,(H.out.b.below n (Nat.le_refl _)).mono n.size⟩,n,by simp⟩
     ·have n5:¬x.k=5:=e5;have s5:(x.k==5)=false:=by simpa using e5
      clear e5;have V:=Hh (show dI x=⟨x.k,x.t,0,0,0,false,[],[]⟩ by simp[dI,W,n2,n3,n4,n5]);clear W n2 n3 n4 n5;go_enter Tryz.func78,Tryz.ntmps78
      go_wp2_with fail;have hrF:(((w.alloc (.cells (aF x ia ms.length ic ba bc) 32)).alloc (.cells #[.int .i64 x.k, .int .i64 x.t, .int .i64 0, .int .i64 0, .int .i64 0, .bool false, .slice none 0 0, .slice none 0 0] 32)).alloc (.cells #[.int .i64 x.k, .int .i64 x.t, .int .i64 0, .int .i64 0, .int .i64 0, .bool false, .slice none 0 0, .slice none 0 0] 32)).heap[w.heap.size+1]? =some (.cells #[.int .i64 x.k, .int .i64 x.t, .int .i64 0, .int .i64 0, .int .i64 0, .bool false, .slice none 0 0, .slice none 0 0] 32 (0,0)):=by refine(((Below.refl _ _).alloc (Nat.le_refl _) _).block (w.heap.size+1) (by simp)).trans ?_;have p:=heap_alloc_new (w.alloc (.cells (aF x ia ms.length ic ba bc) 32)) (.cells #[.int .i64 x.k, .int .i64 x.t, .int .i64 0, .int .i64 0, .int .i64 0, .bool false, .slice none 0 0, .slice none 0 0] 32);simpa using p
      have n:Below w.heap.size w (((w.alloc (.cells (aF x ia ms.length ic ba bc) 32)).alloc (.cells #[.int .i64 x.k, .int .i64 x.t, .int .i64 0, .int .i64 0, .int .i64 0, .bool false, .slice none 0 0, .slice none 0 0] 32)).alloc (.cells #[.int .i64 x.k, .int .i64 x.t, .int .i64 0, .int .i64 0, .int .i64 0, .bool false, .slice none 0 0, .slice none 0 0] 32)):=(((Below.refl _ _).alloc (Nat.le_refl _) _).alloc (by simp) _).alloc (by simp;omega) _;refine bodyPost_ret (results_cell_row rfl _ _ (w.heap.size+1) 32 _ (0,0) _ rfl hrF Tryz.underlying32 rfl aR) rfl ?_;unfold jO;rw[V.out];exact⟨none,0,[],none,0,rfl,⟨io _ _,rfl,nJ _ _⟩,n,by simp⟩
theorem qY(ms:List af)(a:Option Addr)(n c:Nat)(w:World)(hn:n<=100000)(h:bd w w.heap.size a n c ms):
  Calls Tryz.prog 104 #[.slice a n c, .func (.func 76) #[] #[]] w fun e w'=>∃k:Int,e= .returned (.int .i64 k)/\decide (0<=k)=cg ms/\Below w.heap.size w w':=by
 have J:=h.len;subst J;have H:=Hh h;clear h;go_enter Tryz.func104,Tryz.ntmps104
 go_wp2_with fail;go_loopw [8] (fun v wr=>∃j:Nat,j<=ms.length/\v= .int .i64 j/\cg (ms.take j)=false/\Below w.heap.size w wr) (fun v _=>ms.length-(intOf v).toNat)
 case atStart=>exact⟨0,by omega,rfl,rfl,Below.refl _ _⟩
 case round=>
  obtain⟨j,P,rfl,f,d⟩:=hrel;have r:=Hh f;have I:=Hh d;clear f;by_cases y:j<ms.length
  ·obtain⟨m,s⟩:∃m,ms[j]? =some m:=⟨_,List.getElem?_eq_getElem y⟩
   obtain⟨b,o,rfl,G,F,D⟩:=H.out.cell s;have c0:=(d.cell (p:=⟨b,o+j*2,none⟩) G).trans F;have c1:wr.cell? ⟨b,o+j*2+1,none⟩=some (.slice m.a m.n m.c):=(d.cell (p:=⟨b,o+(j*2+1),none⟩) G).trans D;have i:m.n=m.b.length:=((H.out.bs m (List.mem_of_getElem? s)).hlen).symm;rw[i]at c1;have g:=lL s;rw[r.out,Bool.false_or]at g;have A:=Hh g;have C:=Hh (show cg (ms.take (j+1))=true->cg ms=true from lM);have M:(0:Int)<=(j:Int):=by omega
   have L:(j:Int)<(ms.length:Int):=by omega
   have x:=d.size;clear F D s g d i;go_wp2_with fail;refine(uu m.t m.a m.c m.b _).mono ?_;rintro e O ⟨rfl,l⟩;have q:=Hh (I.out.trans (l.mono x));clear l c0 c1;rw[<-A.out];cases hr:cg (ms.take (j+1))
   ·have B:=Hh hr;clear hr;go_wp2;go_roundw
    case rel=>exact⟨j+1,by omega,by go_num,B.out,q.out⟩
    case measure=>simp[intOf];omega
   ·have B:=Hh (C.out hr);clear hr;go_wp2;go_ret;exact⟨j,rfl,by rw[B.out];simp,q.out⟩
  ·have z:j=ms.length:=by omega
   subst z;have N:=Hh (show cg ms=false by have:=r.out;rwa [List.take_length]at this);clear d;go_wp2;go_ret;exact⟨-1,rfl,by rw[N.out];rfl,I.out⟩
theorem ir(ms:List af)(a:Option Addr)(n c:Nat)(w:World)(hn:n<=100000)(h:bd w w.heap.size a n c ms):
  Calls Tryz.prog 75 #[.slice a n c, .func (.func 76) #[] #[]] w fun e w'=>e= .returned (.bool (cg ms))/\Below w.heap.size w w':=by
 have H:=Hh h;clear h;go_enter Tryz.func75,Tryz.ntmps75
 go_wp2_with fail;refine(qY ms a n c w hn H.out).mono ?_;rintro e i ⟨k,rfl,b,d⟩;have g:=Hh d;have f:=Hh b;clear b d;go_wp2;go_ret;exact⟨bY f.out,g.out⟩
structure z6 (g:Nat) (x:ax) (ia:Option Addr) (n ic:Nat) (ba:Option Addr) (bc:Nat) (W:World):Prop where
 r0:W.heap[g]? =some (.cells (aF x ia n ic ba bc) 32 (0,0))
theorem ik(x:ax)(ia:Option Addr)(ic:Nat)(ms:List af)(ba:Option Addr)(bc:Nat)(hn:ms.length<=100000)(w:World)(h:fo w w.heap.size x ia ic ms ba bc):
  Calls Tryz.prog 42 #[.agg (aF x ia ms.length ic ba bc)] w fun e w'=>e= .returned (.bool (aO x))/\Below w.heap.size w w':=by
 obtain⟨W,i⟩:∃W,W=w.alloc (.cells (aF x ia ms.length ic ba bc) 32):=⟨_,rfl⟩
 have p:=Hh i;have hs1:W.heap.size=w.heap.size+1:=by rw[i];simp
 have j:Below w.heap.size w W:=by rw[i];exact(Below.refl _ _).alloc (Nat.le_refl _) _
 have m:W.heap[w.heap.size]? =some (.cells (aF x ia ms.length ic ba bc) 32 (0,0)):=by rw[i];exact heap_alloc_new w _
 have X:=Hh m;have l:=Hh j;have H:=Hh ((h.below j (Nat.le_refl _)).mono j.size);have f:=h.eq;have d:=h.len;have HLN:=Hh d;obtain⟨R,n⟩:∃R,aO x=R:=⟨_,rfl⟩
 rw[n];have F:=Hh (show(x.its.any fun it=> !bj it)=cg ms by rw[<-f];unfold cg;rw[List.any_map];rfl);by_cases y:x.k<1
 ·have t1:decide (x.k<1)=true:=by simpa using y
  have c:R=false:=by rw[<-n];simp[aO,show ¬(1<=x.k) by omega]
  subst c;clear n h f d i j m y;go_enter Tryz.func42,Tryz.ntmps42
  go_wp2_with fail;go_wp2;(try rw[Exit.noGoto_ret]);go_ret;exact⟨rfl,by have:=l.out;rw[p.out]at this;exact this⟩
 ·have t1:decide (x.k<1)=false:=by simpa using y
  by_cases A:5<x.k
  ·have t2:decide (5<x.k)=true:=by simpa using A
   have c:R=false:=by rw[<-n];simp[aO,show ¬(x.k<=5) by omega]
   subst c;clear n h f d i j m y A;go_enter Tryz.func42,Tryz.ntmps42
   go_wp2_with fail;go_wp2;(try rw[Exit.noGoto_ret]);go_ret;exact⟨rfl,by have:=l.out;rw[p.out]at this;exact this⟩
  ·have t2:decide (5<x.k)=false:=by simpa using A
   cases hT:rI x.t with
   | false=>
    have D:=Hh (show oY x.t 1099511627776=false from hT);have c:R=false:=by rw[<-n];simp[aO,hT]
    subst c;clear n h f d i j m y A hT;go_enter Tryz.func42,Tryz.ntmps42
    go_wp2_with fail;refine(bV _ _ _).mono ?_;rintro e q ⟨rfl,rfl⟩;rw[D.out];go_wp2;(try rw[Exit.noGoto_ret]);go_ret;exact⟨rfl,by have:=l.out;rw[p.out]at this;exact this⟩
   | true=>
    have D:=Hh (show oY x.t 1099511627776=true from hT);cases hAU:(rI x.a && rI x.u) with
    | false=>
     have s:=Hh hAU;have c:R=false:=by
      rw[<-n];unfold aO;rw[hAU]
      simp
     subst c;clear n h f d i j m y A hT hAU;go_enter Tryz.func42,Tryz.ntmps42
     go_wp2_with fail;refine(bV _ _ _).mono ?_;rintro e q ⟨rfl,rfl⟩;rw[D.out];go_wp2_with fail;refine(eH _ _ _).mono ?_;rintro e q ⟨rfl,rfl⟩;rw[s.out];go_wp2;(try rw[Exit.noGoto_ret]);go_ret;exact⟨rfl,by have:=l.out;rw[p.out]at this;exact this⟩
    | true=>
     have s:=Hh hAU;cases hO:rI x.o with
     | false=>
      have N:=Hh (show oY x.o 1099511627776=false from hO);have c:R=false:=by rw[<-n];simp[aO,hO]
      subst c;clear n h f d i j m y A hT hAU hO;go_enter Tryz.func42,Tryz.ntmps42
      go_wp2_with fail;refine(bV _ _ _).mono ?_;rintro e q ⟨rfl,rfl⟩;rw[D.out];go_wp2_with fail;refine(eH _ _ _).mono ?_;rintro e q ⟨rfl,rfl⟩;rw[s.out];go_wp2_with fail;refine(bV _ _ _).mono ?_;rintro e q ⟨rfl,rfl⟩;rw[N.out];go_wp2;(try rw[Exit.noGoto_ret]);go_ret;exact⟨rfl,by have:=l.out;rw[p.out]at this;exact this⟩
     | true=>
      have N:=Hh (show oY x.o 1099511627776=true from hO);by_cases Z:16<ms.length
      ·have t6:decide ((16:Int)<(ms.length:Int))=true:=by simp;omega
       have v:16<x.its.length:=by omega
       have c:R=false:=by rw[<-n];simp[aO,show ¬(x.its.length<=16) by omega]
       subst c;clear n h f d i j m y A hT hAU hO Z v;go_enter Tryz.func42,Tryz.ntmps42
       go_wp2_with fail;refine(bV _ _ _).mono ?_;rintro e q ⟨rfl,rfl⟩;rw[D.out];go_wp2_with fail;refine(eH _ _ _).mono ?_;rintro e q ⟨rfl,rfl⟩;rw[s.out];go_wp2_with fail;refine(bV _ _ _).mono ?_;rintro e q ⟨rfl,rfl⟩;rw[N.out];go_wp2;(try rw[Exit.noGoto_ret]);go_ret;exact⟨rfl,by have:=l.out;rw[p.out]at this;exact this⟩
      ·have t6:decide ((16:Int)<(ms.length:Int))=false:=by simp;omega
       have v:¬ 16<x.its.length:=by omega
       by_cases e7:65536<x.b.length
       ·have t7:decide ((65536:Int)<(x.b.length:Int))=true:=by simp;omega
        have c:R=false:=by rw[<-n];simp[aO,show ¬(x.b.length<=65536) by omega]
        subst c;clear n h f d i j m y A hT hAU hO Z v e7;go_enter Tryz.func42,Tryz.ntmps42
        go_wp2_with fail;refine(bV _ _ _).mono ?_;rintro e q ⟨rfl,rfl⟩;rw[D.out];go_wp2_with fail;refine(eH _ _ _).mono ?_;rintro e q ⟨rfl,rfl⟩;rw[s.out];go_wp2_with fail;refine(bV _ _ _).mono ?_;rintro e q ⟨rfl,rfl⟩;rw[N.out];go_wp2;(try rw[Exit.noGoto_ret]);go_ret;exact⟨rfl,by have:=l.out;rw[p.out]at this;exact this⟩
       ·have t7:decide ((65536:Int)<(x.b.length:Int))=false:=by simp;omega
        cases hbad:cg ms with
        | true=>
         have z:=Hh hbad;have c:R=false:=by
          rw[<-n];have V:=F.out;rw[hbad]at V;unfold aO;rw[V]
          simp
         subst c;clear n h f d i j m y A hT hAU hO Z v e7 hbad;go_enter Tryz.func42,Tryz.ntmps42
         go_wp2_with fail;refine(bV _ _ _).mono ?_;rintro e q ⟨rfl,rfl⟩;rw[D.out];go_wp2_with fail;refine(eH _ _ _).mono ?_;rintro e q ⟨rfl,rfl⟩;rw[s.out];go_wp2_with fail;refine(bV _ _ _).mono ?_;rintro e q ⟨rfl,rfl⟩;rw[N.out];go_wp2_with fail;rw[<-p.out];refine(ir ms ia ms.length ic _ hn H.out.its).mono ?_;rintro e G ⟨rfl,g⟩;rw[z.out];have C:=Hh (l.out.trans (g.mono l.out.size));have B:=Hh ((g.block w.heap.size (by omega)).trans X.out);have H3:=Hh ((H.out.below g (Nat.le_refl _)).mono g.size);have a3:=g.size;clear g;go_wp2;(try rw[Exit.noGoto_ret]);go_ret;exact⟨rfl,C.out⟩
        | false=>
         have z:=Hh hbad;have c:R=fH x (dI x):=by
          rw[<-n];have V:=F.out;rw[hbad]at V;simp only[Bool.and_eq_true]at hAU;have f1:decide (1<=x.k)=true:=by simp;omega
          have f2:decide (x.k<=5)=true:=by simp;omega
          have f3:decide (x.its.length<=16)=true:=by simp;omega
          have f4:decide (x.b.length<=65536)=true:=by simp;omega
          unfold aO;rw[f1,f2,hT,hAU.1,hAU.2,hO,f3,f4,V];rfl
         have HRF:=Hh c;subst c;clear n h f d i j m y A hT hAU hO Z v e7 hbad;go_enter Tryz.func42,Tryz.ntmps42
         go_wp2_with fail;refine(bV _ _ _).mono ?_;rintro e q ⟨rfl,rfl⟩;rw[D.out];go_wp2_with fail;refine(eH _ _ _).mono ?_;rintro e q ⟨rfl,rfl⟩;rw[s.out];go_wp2_with fail;refine(bV _ _ _).mono ?_;rintro e q ⟨rfl,rfl⟩;rw[N.out];go_wp2_with fail;rw[<-p.out];refine(ir ms ia ms.length ic _ hn H.out.its).mono ?_;rintro e G ⟨rfl,g⟩;rw[z.out];have C:=Hh (l.out.trans (g.mono l.out.size));have B:=Hh ((g.block w.heap.size (by omega)).trans X.out);have H3:=Hh ((H.out.below g (Nat.le_refl _)).mono g.size);have a3:=g.size;clear g;go_wp2_with fail;refine fx (S:=z6 w.heap.size x ia ms.length ic ba bc) ?_;have M:z6 w.heap.size x ia ms.length ic ba bc G.drew:=⟨B.out⟩
         refine aG 0 46 rfl rfl (by kernel_rfl) (by kernel_rfl) (by kernel_rfl) (fun _ _ _ h=>h) M (gc (by rfl) 32 (.tmp 1) rfl w.heap.size rfl 32 (aF x ia ms.length ic ba bc) _ (fun _ h=>h.r0) Tryz.underlying32 rfl aR) ?_;simp only[List.set_cons_zero,List.set_cons_succ];refine aG 1 47 rfl rfl (by kernel_rfl) (by kernel_rfl) (by kernel_rfl) (fun _ _ _ h=>h) M (gc (by rfl) 32 (.tmp 1) rfl w.heap.size rfl 32 (aF x ia ms.length ic ba bc) _ (fun _ h=>h.r0) Tryz.underlying32 rfl aR) ?_;simp only[List.set_cons_zero,List.set_cons_succ];clear M;refine bp 2 ?_;go_simp;have I:Below G.heap.size G G.drew:=(Below.refl _ _).drew;refine(sj x ia ic ms ba bc (by omega) G.drew (H3.out.below (w':=G.drew) I (Nat.le_refl _))).mono ?_;rintro e w4 ⟨a2,a1,a0,ba',bc',rfl,P,T,hn4⟩;have r:=I.trans T;have Y:=Hh r;have HLU:=Hh P;have O:=r.size;have H4:=Hh ((H3.out.below r (Nat.le_refl _)).mono O);have U:z6 w.heap.size x ia ms.length ic ba bc w4:=⟨(r.block w.heap.size (by omega)).trans B.out⟩
         refine⟨U,?_⟩;clear P T r I U;refine bp 3 ?_;go_simp;refine(sk x (dI x) ia a2 ic a1 ms a0 ba ba' bc bc' (by omega) _ H4.out HLU.out).mono ?_;rintro e w5 ⟨rfl,J⟩;have HB5:=Hh (C.out.trans ((Y.out.trans (J.mono O)).mono C.out.size));have L:z6 w.heap.size x ia ms.length ic ba bc w5:=⟨(J.block w.heap.size (by omega)).trans ((Y.out.block w.heap.size (by omega)).trans B.out)⟩
         refine⟨L,?_⟩;clear J;refine hT 4 2 L ?_;refine dc ?_;clear L;go_wp2;(try rw[Exit.noGoto_ret]);go_ret;exact⟨rfl,HB5.out⟩
end Go.Proofs.YtogcnfhmcpkdcaaGreat
