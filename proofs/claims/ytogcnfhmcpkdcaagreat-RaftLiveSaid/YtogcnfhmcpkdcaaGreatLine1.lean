/-
Contracts of layer 17's small functions: within, right, fits, last, Base, Term, Last, New.
-/
import Derived.Test.YtogcnfhmcpkdcaaGreatSlMem
import Derived.Test.YtogcnfhmcpkdcaaGreatEyeM
import Derived.Test.YtogcnfhmcpkdcaaGreatFieldW
import Derived.Test.YtogcnfhmcpkdcaaGreatHeldM
import Derived.Deep.DeepMust
import Derived.IntWalk
import Derived.Deep.Onto
import Derived.Deep.RegionHeld3
import Derived.Deep.RegionWith
namespace Go.Proofs.YtogcnfhmcpkdcaaGreat
open Go.RowKit
set_option linter.unusedVariables false
set_option linter.unusedSimpArgs false
abbrev cE (w:World) (base p:Nat) (x:ae) (la:Option Addr) (lc:Nat) (ms:List af):Prop:=bS 5 40 105 w base p x la lc ms
def oY(n hi:Int):Bool:=decide (0<=n) && decide (n<=hi)
theorem gJ(n a:Int)(w:World):
  Calls Tryz.prog 65 #[.int .i64 n, .int .i64 a] w fun e w'=>e= .returned (.bool (oY n a))/\w=w':=by
 obtain⟨x,y,d,c⟩:∃x y:Bool,decide (0<=n)=x/\decide (n<=a)=y:=⟨_,_,rfl,rfl⟩
 have b:oY n a=(x && y):=by rw[<-d,<-c];rfl
 rw[b];have HE:=Hh b;clear b;cases x
 ·go_enter Tryz.func65,Tryz.ntmps65
  go_wp2;go_ret;exact⟨rfl,rfl⟩
 ·cases y
  all_goals
   go_enter Tryz.func65,Tryz.ntmps65
   go_wp2;go_ret;exact⟨rfl,rfl⟩
theorem iG(t:Int)(a:Option Addr)(c:Nat)(b:List UInt8)(w:World):
  Calls Tryz.prog 84 #[.agg #[.int .i64 t, .slice a b.length c]] w fun e w'=>e= .returned (.bool (bj (t,b)))/\Below w.heap.size w w':=by
 obtain⟨x,f⟩:∃x:Bool,oY t 1099511627776=x:=⟨_,rfl⟩
 obtain⟨y,k⟩:∃y:Bool,decide ((b.length:Int)<=8192)=y:=⟨_,rfl⟩
 have d:decide (b.length<=8192)=y:=by rw[<-k,Bool.eq_iff_iff];simp;omega
 have g:bj (t,b)=(x && y):=by rw[<-f,<-d,oY,bj,Bool.and_assoc]
 rw[g];have HE:=Hh g;have i:=Hh f;have h:=Hh ((Below.refl _ w).alloc (Nat.le_refl _) (.cells #[.int .i64 t, .slice a b.length c] 40));clear g f;cases x
 ·go_enter Tryz.func84,Tryz.ntmps84
  go_wp2_with fail;refine(gJ _ _ _).mono ?_;rintro e j ⟨rfl,rfl⟩;rw[i.out];go_wp2;go_ret;exact⟨rfl,h.out⟩
 ·cases y
  all_goals
   go_enter Tryz.func84,Tryz.ntmps84
   go_wp2_with fail;refine(gJ _ _ _).mono ?_;rintro e j ⟨rfl,rfl⟩;rw[i.out];go_wp2;go_ret;exact⟨rfl,h.out⟩
theorem kl(base p:Nat)(x:ae)(hx0:0<=x.base)(hx1:x.base<=1099511627776)(la:Option Addr)(lc:Nat)(ms:List af)(n:Int)(w:World)(h:cE w base p x la lc ms):
  Calls Tryz.prog 85 #[.pointer (some ⟨p,0,none⟩), .int .i64 n] w fun e w'=>e= .returned (.bool (cL x n))/\w=w':=by
 obtain⟨c0,c1,c2,d⟩:=h.cells;obtain⟨y,c⟩:∃y:Bool,decide (n<=4096)=y:=⟨_,rfl⟩
 obtain⟨z,b⟩:∃z:Bool,decide (n<=1099511627776-x.base)=z:=⟨_,rfl⟩
 have a:cL x n=(y && z):=by rw[<-c,<-b];rfl
 rw[a];have HE:=Hh a;clear a h c1 c2 d;cases y
 ·go_enter Tryz.func85,Tryz.ntmps85
  go_wp2;go_ret;exact⟨rfl,rfl⟩
 ·cases z
  all_goals
   go_enter Tryz.func85,Tryz.ntmps85
   go_wp2;go_ret;exact⟨rfl,rfl⟩
theorem cC(base p:Nat)(x:ae)(hg:x.Good)(la:Option Addr)(lc:Nat)(ms:List af)(w:World)(h:cE w base p x la lc ms):
  Calls Tryz.prog 87 #[.pointer (some ⟨p,0,none⟩)] w fun e w'=>e= .returned (.int .i64 x.last)/\∃m,w'=w.drewN m:=by
 obtain⟨c0,c1,c2,f⟩:=h.cells;have c:=h.len;have k:=hg.b0;have j:=hg.b1;have d:=hg.n1;have i:(ms.length:Int)<=4096:=by omega
 obtain⟨L,b⟩:∃L,L=x.last:=⟨_,rfl⟩
 have a:x.base+(ms.length:Int)=L:=by rw[b,ae.last,c]
 rw[<-b];have g:=Hh a;clear h c b a d c1 f;go_enter Tryz.func87,Tryz.ntmps87
 go_wp2_with fail;go_quiet (fail)
 go_wp2;go_ret;exact⟨wY g.out,_,rfl⟩
theorem below_drewN(w:World)(n:Nat):Below w.heap.size w (w.drewN n):=⟨rfl,rfl,rfl,Nat.le_refl _,fun _ _=>rfl⟩
theorem bS.drewN{a c b:TypeId}{w:World}{base p:Nat}{x:ae}{la:Option Addr}{lc:Nat}{ms:List af}(h:bS a c b w base p x la lc ms)(n:Nat):bS a c b (w.drewN n) base p x la lc ms:=h.below (below_drewN w n)
theorem fM(base p:Nat)(x:ae)(la:Option Addr)(lc:Nat)(ms:List af)(w:World)(h:cE w base p x la lc ms):
  Calls Tryz.prog 30 #[.pointer (some ⟨p,0,none⟩)] w fun e w'=>e= .returned (.tuple #[.int .i64 x.base, .int .i64 x.term])/\∃m,w'=w.drewN m:=by
 obtain⟨c0,c1,c2,a⟩:=h.cells;clear h c2 a;go_enter Tryz.func30,Tryz.ntmps30
 go_wp2_with fail;go_quiet (fail)
 go_wp2;go_ret2;exact⟨rfl,_,rfl⟩
def bk(x:ae)(i:Int):Int×Bool:=if 0<=x.tm i then(x.tm i,true) else(0,false)
theorem dx(base p:Nat)(x:ae)(hg:x.Good)(la:Option Addr)(lc:Nat)(ms:List af)(i:Int)(w:World)(h:cE w base p x la lc ms):
  Calls Tryz.prog 68 #[.pointer (some ⟨p,0,none⟩), .int .i64 i] w fun e w'=>e= .returned (.tuple #[.int .i64 (bk x i).1, .bool (bk x i).2])/\∃m,w'=w.drewN m:=by
 obtain⟨c0,c1,c2,V⟩:=h.cells;have r:=h.len;have S:=hg.b0;have P:=hg.b1;have v:=hg.n1;have c:=hg.tm_ge i;have a:x.last=x.base+(x.l.length:Int):=rfl;obtain⟨L,q⟩:∃L,L=x.last:=⟨_,rfl⟩
 obtain⟨R,d⟩:∃R,R=bk x i:=⟨_,rfl⟩
 rw[<-d];have W:=Hh d;have A:=Hh h;by_cases f:i=x.base
 ·have t0:(i==x.base)=true:=by simpa using f
  have g:R=(x.term,true):=by rw[d,bk,if_pos (by rw[c];omega)];simp[ae.tm,f]
  subst g;clear h r d c a q v f;go_enter Tryz.func68,Tryz.ntmps68
  go_wp2;go_ret2;exact⟨rfl,0,rfl⟩
 ·have t0:(i==x.base)=false:=by simpa using f
  by_cases U:i<x.base
  ·have g:R=(0,false):=by rw[d,bk,if_neg (by rw[c];omega)]
   subst g;clear h r d c a q v f;go_enter Tryz.func68,Tryz.ntmps68
   go_wp2;go_ret2;exact⟨rfl,0,rfl⟩
  ·by_cases T:L<i
   ·have g:R=(0,false):=by rw[d,bk,if_neg (by rw[c];omega)]
    subst g;have z:=Hh q;clear h r d c a q v f;go_enter Tryz.func68,Tryz.ntmps68
    go_wp2_with fail;refine(cC base p x hg la lc ms _ A.out).mono ?_;rintro e B ⟨rfl,m,rfl⟩;rw[<-z.out];go_wp2;go_ret2;exact⟨rfl,_,rfl⟩
   ·have n:(i-x.base-1).toNat<ms.length:=by omega
    obtain⟨k,s⟩:∃k,(i-x.base-1).toNat=k:=⟨_,rfl⟩
    rw[s]at n;obtain⟨y,j⟩:∃y,ms[k]? =some y:=⟨_,List.getElem?_eq_getElem n⟩
    obtain⟨b,o,rfl,O,C,N⟩:=h.sl.cell j;have g:R=(y.t,true):=by rw[d,bk,if_pos (by rw[c];omega)];simp only[ae.tm];rw[if_neg f,if_neg (by omega),<-h.its,s];simp[List.getD,List.getElem?_map,j]
    rw[<-s,show(i-x.base-1).toNat=(i-x.base).toNat-1 by omega]at C;subst g;have z:=Hh q;have F:i-x.base-1<(ms.length:Int):=by omega
    have G:0<=i-x.base-1:=by omega
    have D:(ms.length:Int)<=4096:=by omega
    clear h r d c a q v f j s n;go_enter Tryz.func68,Tryz.ntmps68
    go_wp2_with fail;refine(cC base p x hg _ lc ms _ A.out).mono ?_;rintro e B ⟨rfl,m,rfl⟩;rw[<-z.out];go_wp2_with fail;have M:IntKind.i64.wrap (i-x.base)=i-x.base:=IntWalk.i64_in _ (by omega);have J:IntKind.i64.wrap (i-x.base-1)=i-x.base-1:=IntWalk.i64_in _ (by omega);have I:decide (0<=i-x.base-1)=true:=by simp;omega
    have H:decide (i-x.base-1<(ms.length:Int))=true:=by simp;omega
    go_quiet (fail)
    go_wp2;go_ret2;exact⟨rfl,_,World.drewN_drewN _ _ _⟩
theorem kj(base p:Nat)(x:ae)(hg:x.Good)(la:Option Addr)(lc:Nat)(ms:List af)(w:World)(h:cE w base p x la lc ms):
  Calls Tryz.prog 70 #[.pointer (some ⟨p,0,none⟩)] w fun e w'=>e= .returned (.tuple #[.int .i64 x.last, .int .i64 (bk x x.last).1])/\∃m,w'=w.drewN m:=by
 obtain⟨L,a⟩:∃L,x.last=L:=⟨_,rfl⟩
 rw[a];have d:=Hh a;have H:=Hh h;clear h a;go_enter Tryz.func70,Tryz.ntmps70
 go_wp2_with fail;refine(cC base p x hg _ lc ms _ H.out).mono ?_;rintro e b ⟨rfl,m,rfl⟩;rw[d.out];go_wp2_with fail;refine(dx base p x hg _ lc ms _ _ (H.out.drewN m)).mono ?_;rintro e b ⟨rfl,c,rfl⟩;go_wp2_with fail;have g:=Hh (H.out.drewN (m+c));refine(cC base p x hg _ lc ms _ g.out).mono ?_;rintro e b ⟨rfl,f,rfl⟩;rw[d.out];go_wp2;go_ret2;exact⟨rfl,m+c+f,by simp[World.drewN_drewN]⟩
def lB(b t:Int):Bool:=oY b 1099511627776 && oY t 1099511627776
theorem iJ(b t:Int):lB b t=true↔0<=b/\b<=1099511627776/\0<=t/\t<=1099511627776:=by simp[lB,oY,and_assoc]
theorem nk{b t:Int}(h:lB b t=true):ae.Good ⟨b,t,[]⟩:=by obtain⟨e,a,d,c⟩:=(iJ b t).1 h;exact⟨e,a,d,c,by simp,by simpa using a,by simp⟩
theorem fS(b t:Int)(h:lB b t=true)(w:World):
  Calls Tryz.prog 34 #[.int .i64 b, .int .i64 t] w fun e w'=>e= .returned (.pointer (some ⟨w.heap.size,0,none⟩))/\cE w' w.heap.size w.heap.size ⟨b,t,[]⟩ none 0 []/\Below w.heap.size w w'/\w'.heap.size=w.heap.size+1:=by
 have c:oY b 1099511627776=true:=by simp[lB]at h;exact h.1
 have a:oY t 1099511627776=true:=by simp[lB]at h;exact h.2
 have g:=Hh c;have f:=Hh a;clear c a h;go_enter Tryz.func34,Tryz.ntmps34
 go_wp2_with fail;refine(gJ _ _ _).mono ?_;rintro e d ⟨rfl,rfl⟩;rw[g.out];go_wp2_with fail;refine(gJ _ _ _).mono ?_;rintro e d ⟨rfl,rfl⟩;rw[f.out];go_wp2;go_ret;exact⟨rfl,⟨heap_alloc_new w _,⟨rfl, .inl ⟨rfl,rfl⟩⟩,rfl,by simp,Nat.le_refl _⟩,(Below.refl _ w).alloc (Nat.le_refl _) _,by simp⟩
theorem cH:(Tryz.prog.info? 40).map (·.size)=some 2:=by kernel_rfl
theorem gT(w:World)(g:Nat)(cs:Array Value)(k:Nat)(hk:k≠g):∀o,(w.setRow g cs).cell? ⟨k,o,none⟩=w.cell? ⟨k,o,none⟩:=fun o=>World.cell?_of_block (a:=⟨k,o,none⟩) (setRow_other _ _ _ _ hk)
set_option maxRecDepth 100000 in
set_option maxHeartbeats 1000000 in
theorem fA(t:Int)(a:Option Addr)(c:Nat)(b:List UInt8)(w:World)(h:aM w w.heap.size a b.length c b):
  Calls Tryz.prog 86 #[.agg #[.int .i64 t, .slice a b.length c]] w fun e w'=>∃a' c',e= .returned (.agg #[.int .i64 t, .slice a' b.length c'])/\w'.ownsRow w.heap.size 5 1 (.slice a' b.length c') b.length (b.map bv)/\Below w.heap.size w w':=by
 obtain⟨d,f⟩:∃d,d=(w.alloc (.cells #[.int .i64 t, .slice a b.length c] 40)).alloc (.cells #[.int .i64 0, .slice none 0 0] 40):=⟨_,rfl⟩
 have l:Below w.heap.size w d:=by rw[f];exact((Below.refl _ w).alloc (Nat.le_refl _) _).alloc (by simp) _
 have r:aM d d.heap.size a b.length c b:=(h.below l (Nat.le_refl _)).mono l.size;have z:=Hh (show aM d.drew d.drew.heap.size a b.length c b from r.below (Below.refl _ _).drew (Nat.le_refl _));have D:=Hh f;clear h r;go_enter Tryz.func86,Tryz.ntmps86
 go_wp2_with fail;rw[<-D.out];have G:d.cell? ⟨w.heap.size,0,none⟩=some (.int .i64 t):=by rw[f];simp[go_sem]
 have F:d.cell? ⟨w.heap.size,1,none⟩=some (.slice a b.length c):=by rw[f];simp[go_sem]
 have B:d.heap[w.heap.size+1]? =some (.cells #[.int .i64 0, .slice none 0 0] 40 (0,0)):=by rw[f];have:=heap_alloc_new (w.alloc (.cells #[.int .i64 t, .slice a b.length c] 40)) (.cells #[.int .i64 0, .slice none 0 0] 40);simpa using this
 have I:d.heap.size=w.heap.size+2:=by rw[f];simp
 have A:=Hh l;have M:=Hh B;clear f l B D;refine fx (S:=fun w'=>w'.cell? ⟨w.heap.size,0,none⟩=some (.int .i64 t)/\w'.cell? ⟨w.heap.size,1,none⟩=some (.slice a b.length c)) ?_;have j:d.drew.cell? ⟨w.heap.size,0,none⟩=some (.int .i64 t)/\d.drew.cell? ⟨w.heap.size,1,none⟩=some (.slice a b.length c):=⟨G,F⟩
 refine aG 0 3 rfl rfl (by kernel_rfl) (by kernel_rfl) (by kernel_rfl) (fun _ _ _ h=>h) j (.inl ⟨by rfl,by intro w' m;(try dsimp only at m);go_simp;(try rfl)⟩) ?_;simp only[List.set_cons_zero,List.set_cons_succ];refine aG 1 4 rfl rfl (by kernel_rfl) (by kernel_rfl) (by kernel_rfl) (fun _ _ _ h=>h) j (.inl ⟨by rfl,by intro w' m;(try dsimp only at m);go_simp;(try rfl)⟩) ?_;simp only[List.set_cons_zero,List.set_cons_succ];refine aG 2 5 rfl rfl (by kernel_rfl) (by kernel_rfl) (by kernel_rfl) (fun _ _ _ h=>h) j (.inl ⟨by rfl,by intro w' m;(try dsimp only at m);go_simp;(try rfl)⟩) ?_;simp only[List.set_cons_zero,List.set_cons_succ];refine aG 3 6 rfl rfl (by kernel_rfl) (by kernel_rfl) (by kernel_rfl) (fun _ _ _ h=>h) j (.inl ⟨by rfl,by intro w' m;(try dsimp only at m);go_simp;(try rfl)⟩) ?_;simp only[List.set_cons_zero,List.set_cons_succ];refine bp 4 ?_;go_simp;refine(nI b a b.length c _ z.out).mono ?_;rintro e g ⟨a',c',rfl, -,i,n⟩;have q:g.cell? ⟨w.heap.size,0,none⟩=some (.int .i64 t)/\g.cell? ⟨w.heap.size,1,none⟩=some (.slice a b.length c):=by rw[i.cell (p:=⟨w.heap.size,0,none⟩) (by show w.heap.size<d.heap.size;omega),i.cell (p:=⟨w.heap.size,1,none⟩) (by show w.heap.size<d.heap.size;omega)];exact j
 refine⟨q,?_⟩;refine aG 5 8 rfl rfl (by kernel_rfl) (by kernel_rfl) (by kernel_rfl) (fun _ _ _ h=>h) q (.inl ⟨by rfl,by intro w' m;(try dsimp only at m);go_simp;(try rfl)⟩) ?_;simp only[List.set_cons_zero,List.set_cons_succ];refine bp 6 ?_;have H:d.heap.size<=g.heap.size:=i.size;have C:g.heap[w.heap.size+1]? =some (.cells #[.int .i64 0, .slice none 0 0] 40 (0,0)):=(i.block _ (by show _<d.heap.size;omega)).trans M.out;refine wp_store_row 40 _ _ rfl (w.heap.size+1) #[.int .i64 t, .slice a' b.length c'] rfl rfl 40 _ C cH rfl (by simp[Value.oneCell']) ?_;refine⟨by rw[gT _ _ _ _ (by omega),gT _ _ _ _ (by omega)];exact q,dc ?_⟩;have J:=setRow_heap g (w.heap.size+1) _ #[.int .i64 t, .slice a' b.length c'] 40 _ C;have v:Below w.heap.size d.drew g:=i.mono (show w.heap.size<=d.heap.size by omega);have s:Below w.heap.size g (g.setRow (w.heap.size+1) #[.int .i64 t, .slice a' b.length c']):=ex g _ (by omega);have y:Below w.heap.size w (g.setRow (w.heap.size+1) #[.int .i64 t, .slice a' b.length c']):=A.out.trans ((Below.refl _ d).drew.trans (v.trans s));have o:(g.setRow (w.heap.size+1) #[.int .i64 t, .slice a' b.length c']).ownsRow w.heap.size 5 1 (.slice a' b.length c') b.length (b.map bv):=by refine World.ownsRow.mono (World.ownsRow.kept n (row:=some (w.heap.size+1)) ⟨rfl,rfl,rfl,by simp,fun k N x=>setRow_other _ _ _ _ (fun e=>x (by rw[e]))⟩ (.inr fun e=> ?_)) (by show w.heap.size<=d.heap.size;omega);have O:=(n.lt _ e).1;have L:d.drew.heap.size=d.heap.size:=rfl;omega
 go_wp2;exact bodyPost_ret (results_cell_row rfl _ _ (w.heap.size+1) 40 _ (0,0) _ rfl J Tryz.underlying40 rfl cH) rfl ⟨a',c',rfl,o,y⟩
end Go.Proofs.YtogcnfhmcpkdcaaGreat
