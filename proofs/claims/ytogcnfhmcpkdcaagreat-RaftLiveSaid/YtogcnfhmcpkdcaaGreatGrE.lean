/-
Walks of a group: what a step is told (Pick), and what holds of a group that rests.
-/
import Derived.Test.YtogcnfhmcpkdcaaGreatGrD
import Derived.Test.YtogcnfhmcpkdcaaGreatRaftN9
import Derived.Test.YtogcnfhmcpkdcaaGreatSfM
namespace Go.Proofs.YtogcnfhmcpkdcaaGreat
open Go.RowKit
set_option linter.unusedVariables false
set_option linter.unusedSimpArgs false
def pk(a:Int)(n:Nat):Nat:=if n=0 then 0 else(a%(n:Int)).toNat
theorem vi{a:Int}{n:Nat}(h:0<n):pk a n<n:=by unfold pk;rw[if_neg (by omega)];have c:=Int.emod_lt_of_pos a (show(0:Int)<n by omega);have b:=Int.emod_nonneg a (show(n:Int)≠0 by omega);omega
theorem lY(a:Int)(n:Nat)(hn:n<=1000000)(w:World):Calls Tryz.prog 58 #[.int .i64 a, .int .i64 n] w fun e w'=>e= .returned (.int .i64 (pk a n:Nat))/\w'=w:=by
 obtain⟨K,k⟩:∃K,K=pk a n:=⟨_,rfl⟩
 rw[<-k];have m:=Hh k;clear k;by_cases t:n=0
 ·subst t;have x:K=0:=m.out;subst x;go_enter Tryz.func58,Tryz.ntmps58
  go_wp2;go_ret;exact⟨rfl,rfl⟩
 ·have L:decide ((n:Int)<1)=false:=by simp;omega
  have z:¬((n:Int)=0):=by omega
  have j:(K:Int)=a%(n:Int):=by have b:=m.out;unfold pk at b;rw[if_neg t]at b;have c:=Int.emod_nonneg a (show(n:Int)≠0 by omega);omega
  obtain⟨r,p⟩:∃r:Int,a.tmod (n:Int)=r:=⟨_,rfl⟩
  have A:K<n:=by rw[m.out];exact vi (by omega)
  have h:(0<=r/\r=K)\/(r<0/\r+n=K):=by
   by_cases D:0<=a
   ·left
    rw[Int.tmod_eq_emod_of_nonneg D]at p;omega
   ·have F:a.tmod (n:Int)= -((-a)%(n:Int)):=by
     have G:a.tmod (n:Int)= -((-a).tmod (n:Int)):=by rw[Int.neg_tmod];omega
     rw[G,Int.tmod_eq_emod_of_nonneg (by omega)]
    have H:a%(n:Int)=if (-a)%(n:Int)=0 then 0 else(n:Int)-(-a)%(n:Int):=by
     have l:(a+(-a)%(n:Int))%(n:Int)=0:=by
      have I:a+(-a)%(n:Int)=(n:Int)* -((-a) / (n:Int)):=by have O:=Int.emod_add_mul_ediv (-a) (n:Int);rw[Int.mul_neg];omega
      rw[I,Int.mul_emod_right]
     have J:=Int.emod_nonneg (-a) (show(n:Int)≠0 by omega);have c:=Int.emod_lt_of_pos (-a) (show(0:Int)<n by omega);split
     ·rename_i b;rw[b,Int.add_zero]at l;exact l
     ·rename_i b
      have g:(a+(-a)%(n:Int))%(n:Int)=(a%(n:Int)+(-a)%(n:Int))%(n:Int):=by rw[Int.emod_add_emod]
      rw[l]at g;have C:=Int.emod_nonneg a (show(n:Int)≠0 by omega);have B:=Int.emod_lt_of_pos a (show(0:Int)<n by omega);obtain⟨q,s⟩:=Int.dvd_of_emod_eq_zero g.symm;have i:q=1:=by
       have d:0<(n:Int)*q:=by rw[<-s];omega
       have f:(n:Int)*q<n*2:=by rw[<-s];omega
       have y:(0:Int)<n:=by omega
       have N:0<q:=Int.pos_of_mul_pos_right d (by omega);have M:q<2:=Int.lt_of_mul_lt_mul_left f (by omega);omega
      subst i;omega
    rw[H]at j;rw[F]at p;have J:=Int.emod_nonneg (-a) (show(n:Int)≠0 by omega);have c:=Int.emod_lt_of_pos (-a) (show(0:Int)<n by omega);split at j<;>omega
  have wr:IntKind.i64.wrap r=r:=IntWalk.i64_in _ (by omega);have o:IntKind.i64.wrap (r+n)=r+n:=IntWalk.i64_in _ (by omega);clear j;rcases h with⟨b,c⟩ | ⟨b,c⟩
  ·have v:decide (r<0)=false:=by simp;omega
   subst c;clear o;go_enter Tryz.func58,Tryz.ntmps58
   go_wp2;go_ret;exact⟨rfl,rfl⟩
  ·have v:decide (r<0)=true:=by simp;omega
   rw[c]at o;clear b;have P:=Hh c;go_enter Tryz.func58,Tryz.ntmps58
   go_wp2;go_ret;exact⟨rfl,rfl⟩
section
variable {w w' w1 : World} {B g n c : Nat} {G : ac} {M : bG} {i : Nat} {gh : Gh}
theorem SI.up(h:SI gh n c G){c':Nat}(a:c<=c'):SI gh n c' G:=
 ⟨h.ok,Nat.le_trans h.cnt a,h.sn,h.n1,h.n7,h.rsl,h.hdl,h.ntl,h.atl,h.right,h.ri,fun j R d b i g f=>(by obtain⟨e,k⟩:=h.st j R d b i g f;exact⟨e,by omega⟩),h.bag,h.bagl,h.seen,h.wl,h.wh,h.led,Nat.le_trans h.ll a⟩
inductive nZ (n:Nat):Nat->ac->Prop
 | made:nZ n 0 (ac.made n)
 | up {k k':Nat} {G:ac}:nZ n k G->k<=k'->nZ n k' G
 | tick {k i:Nat} {G:ac} {R:aa}:nZ n k G->G.rs[i]? =some R->nZ n (k+1) (({ G with rs:=G.rs.set i R.tick }:ac).coll i R.tick)
 | propose {k i:Nat} {G:ac} {R:aa} (b:List UInt8):nZ n k G->G.rs[i]? =some R->nZ n (k+4) (({ G with rs:=G.rs.set i (R.propose b).1 }:ac).coll i (R.propose b).1)
 | idle {k i:Nat} {G:ac} {R:aa}:nZ n k G->G.rs[i]? =some R->nZ n k (G.coll i R)
 | handle {k i j:Nat} {G:ac} {R R':aa} (f:Int) (x:ax):nZ n k G->G.rs[i]? =some R->G.rs[j]? =some R'->x.t<=R'.bt->aO x=true->nZ n (k+4) (({ G with rs:=G.rs.set i (R.handle f x) }:ac).coll i (R.handle f x))
 | lost {k:Nat} {G:ac} (m:Nat):nZ n k G->nZ n k { G with bag:=G.bag.take m++G.bag.drop (m+1) }
 | twice {k:Nat} {G:ac} {y:fO}:nZ n k G->y∈G.bag->nZ n (k+1) { G with bag:=G.bag++ [y] }
 | load {k i:Nat} {G:ac} {R:aa}:nZ n k G->G.rs[i]? =some R->nZ n k { G with rs:=G.rs.set i R.bare.base,ats:=G.ats.set i R.line.base }
 | compact {k i:Nat} {G:ac} {R:aa} (s h:List UInt8):nZ n k G->G.rs[i]? =some R->nZ n k { G with rs:=G.rs.set i (R.compact s).1,hd:=G.hd.set i h,nt:=G.nt.set i [] }
structure kE (gh:Gh) (n c kk:Nat) (G:ac):Prop extends SI gh n c G where
 rc:nZ n kk G
theorem kE.up{a:Nat}(h:kE gh n c a G){c' k':Nat}(b:c<=c')(hk:a<=k'):kE gh n c' k' G:=⟨h.toSI.up b,h.rc.up hk⟩
theorem kE.tick{a:Nat}{R:aa}(h:kE gh n c a G)(hc:c<=2000)(hR:G.rs[i]? =some R):Cw { G with rs:=G.rs.set i R.tick } i n R.tick/\∃g',kE g' n (c+1) (a+1) (({ G with rs:=G.rs.set i R.tick }:ac).coll i R.tick):=by obtain⟨d,g',b⟩:=h.toSI.tick hc hR;exact⟨d,g',b, .tick h.rc hR⟩
theorem kE.propose{a:Nat}{R:aa}(h:kE gh n c a G)(hc:c<=2000)(hR:G.rs[i]? =some R){b:List UInt8}(d:b.length<=50):Cw { G with rs:=G.rs.set i (R.propose b).1 } i n (R.propose b).1/\∃g',kE g' n (c+1) (a+4) (({ G with rs:=G.rs.set i (R.propose b).1 }:ac).coll i (R.propose b).1):=by obtain⟨f,g',e⟩:=h.toSI.propose hc hR d;exact⟨f,g',e, .propose b h.rc hR⟩
theorem kE.idle{a:Nat}{R:aa}(h:kE gh n c a G)(hc:c<=2000)(hR:G.rs[i]? =some R):Cw G i n R/\∃g',kE g' n (c+1) a (G.coll i R):=by obtain⟨d,g',b⟩:=h.toSI.idle hc hR;exact⟨d,g',b, .idle h.rc hR⟩
theorem kE.without{a:Nat}(h:kE gh n c a G)(k:Nat):kE gh n c a { G with bag:=G.bag.take k++G.bag.drop (k+1) }:=⟨h.toSI.without k, .lost k h.rc⟩
theorem kE.twice{a:Nat}(h:kE gh n c a G){y:fO}(b:y∈G.bag)(hl:G.bag.length<2000):kE gh n c (a+1) { G with bag:=G.bag++ [y] }:=⟨h.toSI.twice b hl, .twice h.rc b⟩
theorem kE.handle{e:Nat}{R:aa}(h:kE gh n c e G)(hc:c<=2000)(hR:G.rs[i]? =some R){f:Nat}{x:ax}(b:Lt gh n f i x):Cw { G with rs:=G.rs.set i (R.handle f x) } i n (R.handle f x)/\∃g',kE g' n (c+1) (e+4) (({ G with rs:=G.rs.set i (R.handle f x) }:ac).coll i (R.handle f x)):=by
 obtain⟨j,g',g⟩:=h.toSI.handle hc hR b;obtain⟨d,a⟩:∃d,G.rs[f]? =some d:=⟨_,List.getElem?_eq_getElem (by rw[h.rsl];exact b.jn)⟩
 exact⟨j,g',g, .handle f x h.rc hR a (by rw[(h.ri f d a).1.bt];exact b.t) b.right⟩
theorem kE.load{a:Nat}{R:aa}(h:kE gh n c a G)(hR:G.rs[i]? =some R):∃hd ns,G.hd[i]? =some hd/\G.nt[i]? =some ns/\ns.length<=4097*c/\ly i n hd ns=some R.bare.base/\kE gh n c a { G with rs:=G.rs.set i R.bare.base,ats:=G.ats.set i R.line.base }:=by obtain⟨hd,ns,g,f,e,d,b⟩:=h.toSI.load hR;exact⟨hd,ns,g,f,e,d,b, .load h.rc hR⟩
theorem kE.compact{a:Nat}{R:aa}(h:kE gh n c a G)(hc:c<=2000)(hR:G.rs[i]? =some R)(hy:(R.compact (dn R.applied.toNat)).2=true):(R.compact (dn R.applied.toNat)).1.line.put.length<=900000/\(R.compact (dn R.applied.toNat)).1.state.length<=70000/\kE gh n c a { G with rs:=G.rs.set i (R.compact (dn R.applied.toNat)).1,hd:=G.hd.set i (R.compact (dn R.applied.toNat)).1.head,nt:=G.nt.set i [] }:=by obtain⟨e,d,b⟩:=h.toSI.compact hc hR hy;exact⟨e,d,b, .compact _ _ h.rc hR⟩
structure fe (w:World) (B g n c kk:Nat) (gh:Gh) (G:ac) (M:bG) (ci:Nat):Prop where
 si:kE gh n c kk G
 gr:aA w B g ci G M
 em:∀q:Nat×ay,M.ps[ci]? =some q->q.2.ps= []
def xP(w:World)(B g n c kk:Nat):Prop:=∃a G M b,fe w B g n c kk a G M b
theorem fe.below{b a:Nat}(h:fe w B g n c a gh G M b)(hb:Below w.heap.size w w'):fe w' B g n c a gh G M b:=⟨h.si,h.gr.below hb,h.em⟩
theorem fe.pl{b a:Nat}(h:fe w B g n c a gh G M b):M.ps.length=n:=by rw[h.gr.rl,h.si.rsl]
theorem fe.ml{b a:Nat}(h:fe w B g n c a gh G M b):M.ms.length=G.bag.length:=by rw[<-h.gr.ct.bq];simp
theorem fe.get{r d:Nat}(h:fe w B g n c d gh G M r){j:Nat}(a:j<n):∃R p N,G.rs[j]? =some R/\M.ps[j]? =some (p,N)/\RI gh n j R/\R.out= []/\R.news= []/\R.jumped=false/\R.commit=R.applied/\G.ats[j]? =some R.applied/\aA w B g j G M:=by
 obtain⟨R,b⟩:∃R,G.rs[j]? =some R:=⟨_,List.getElem?_eq_getElem (by rw[h.si.rsl];exact a)⟩
 obtain⟨q,e⟩:∃q,M.ps[j]? =some q:=⟨_,List.getElem?_eq_getElem (by rw[h.pl];exact a)⟩
 obtain⟨o,m,l,k,i,f⟩:=h.si.ri j R b;exact⟨R,q.1,q.2,b,e,o,m,l,k,i,f,h.gr.cur h.em j⟩
end
end Go.Proofs.YtogcnfhmcpkdcaaGreat
