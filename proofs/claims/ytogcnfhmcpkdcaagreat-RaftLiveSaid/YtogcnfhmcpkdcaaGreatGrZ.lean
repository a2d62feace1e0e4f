/-
The plain law of RaftLive: all groups that steps made have few letters, few ticks, small terms. No walk.
-/
import Derived.Test.YtogcnfhmcpkdcaaGreatLiveM
import Derived.Test.YtogcnfhmcpkdcaaGreatGrE
import Derived.Test.YtogcnfhmcpkdcaaGreatGrT
import Derived.Deep.QuietTactic
import Derived.BigQuiet
set_option maxRecDepth 100000
set_option maxHeartbeats 4000000
namespace Go.Proofs.YtogcnfhmcpkdcaaGreat
open Go.RowKit
set_option linter.unusedVariables false
set_option linter.unusedSimpArgs false
section
variable {R R' : aa} {G : ac} {n i j k : Nat}
theorem nZ.rg(h:nZ n k G)(h1:1<=n)(h5:n<=5)(hk:k<=1000000):RG n k k G:=by
 induction h with
 | made=>
  have z:∀(j:Nat) (Q:aa),(ac.made n).rs[j]? =some Q->j<n/\Q=aa.new j n:=fun j Q o=>by
   have o:((List.range n).map fun(j:Nat)=>aa.new (j:Int) n)[j]? =some Q:=o;rw[List.getElem?_map]at o;by_cases A:j<n
   ·rw[List.getElem?_range A]at o;injection o with o;exact⟨A,o.symm⟩
   ·rw[List.getElem?_eq_none (by simp;omega)]at o;cases o
  refine⟨by simp[ac.made,ac.madeN],by simp[ac.made,ac.madeN],fun j Q o=> ?_,?_⟩
  ·obtain⟨A,rfl⟩:=z j Q o;exact⟨nf (by omega) (by omega) (by omega) (by omega),rfl,rfl,rfl,⟨fun e=>(by cases e),fun _=>by show(0:Int)<_;omega,fun e=>absurd rfl e,fun e=>(by cases e),by show(0:Int)<=_;omega,fun e=>(by cases e),fun e=>(by cases e)⟩⟩
  ·have v:∀m,((List.range m).map (dl∘fun(j:Nat)=>aa.new (j:Int) n)).sum=0:=fun m=>by
    induction m with
    | zero=>rfl
    | succ m ih=>rw[List.range_succ,List.map_append,List.sum_append,ih];rfl
   show 0+(((List.range n).map fun(j:Nat)=>aa.new (j:Int) n).map dl).sum<=0;rw[List.map_map,v];exact Nat.le_refl _
 | up _ hk' ih=>exact(ih (by omega)).up hk' hk'
 | tick h l ih=>have g:=ih (by omega);obtain⟨a,b,c,d,e⟩:=g.rs _ _ l;obtain⟨t,r,q,p⟩:=e.tick a b c h5 d (by omega);exact g.acted l (td a) q p (by exact_mod_cast t) r (by omega) (Nat.le_refl _)
 | propose b h l ih=>have g:=ih (by omega);obtain⟨a,w,c,d,e⟩:=g.rs _ _ l;obtain⟨t,r,q,p⟩:=e.propose a w c h5 d b;exact g.acted l (s9 a b) q p (t.up (by omega)) r (by omega) (Nat.le_refl _)
 | idle h l ih=>have g:=ih (by omega);obtain⟨a,w,c,d,e⟩:=g.rs _ _ l;have v:=g.acted (d:=0) l a w c e (by rw[d];simp) (Nat.le_refl _) (Nat.le_refl _);rw[gd l]at v;exact v
 | handle f x h l hR' ht hr ih=>have g:=ih (by omega);obtain⟨a,w,c,d,e⟩:=g.rs _ _ l;obtain⟨-, -, -, -,e'⟩:=g.rs _ _ hR';obtain⟨t,r,q,p⟩:=e.handle a w c h5 d f (Int.le_trans ht e'.bt);exact g.acted l (oR a f x) q p (t.up (by omega)) r (by omega) (by omega)
 | @lost k G m h ih=>
  have g:=ih (by omega);refine⟨g.len,g.nl,g.rs,?_⟩;have C:(G.bag.take m++G.bag.drop (m+1)).length<=G.bag.length:=by rw[List.length_append,List.length_take,List.length_drop];omega
  exact Nat.le_trans (Nat.add_le_add_right C _) g.psi
 | @twice k G y h hy ih=>
  have g:=ih (by omega);refine { len:=g.len,nl:=g.nl,rs:=fun j R l=> ?_,psi:= ?_ }
  ·obtain⟨a,b,c,d,e⟩:=g.rs j R l;exact⟨a,b,c,d,e.up (by omega)⟩
  ·have v:=g.psi;show(G.bag++ [y]).length+(G.rs.map dl).sum<=_;rw[List.length_append,List.length_singleton];omega
 | @load k i G R h l ih=>have g:=ih (by omega);obtain⟨a,b,c,d,e⟩:=g.rs _ _ l;refine g.turn l (tp a) b c rfl (⟨fun e=>(by cases e),fun _=>by show(0:Int)<_;omega,fun e=>absurd rfl e,fun e=>(by cases e),e.bt,fun e=>(by cases e),fun e=>(by cases e)⟩) (Nat.le_refl _) rfl rfl ?_;have v:dl R.bare.base=0:=rfl;show G.bag.length+dl R.bare.base+k<=G.bag.length+dl R+k;omega
 | compact s hd h l ih=>have g:=ih (by omega);obtain⟨a,b,c,d,e⟩:=g.rs _ _ l;obtain⟨t,r,q,p,B⟩:=e.compact a.line s;refine g.turn l (nh a s) (by rw[p];exact b) (by rw[B];exact c) (by rw[q];exact d) t (Nat.le_refl _) rfl (by show(List.set _ _ _).length=_;rw[List.length_set]) ?_;rw[r];exact Nat.le_refl _
end
section
variable {w w' w1 : World} {B g n c k p m ci : Nat} {G : ac} {M : bG} {i : Nat} {gh : Gh} {A : AS}
structure eA (w:World) (B g n c k p m:Nat) (gh:Gh) (G:ac) (M:bG) (ci:Nat) (A:AS):Prop where
 fi:FI gh G n c k p m A
 gr:aA w B g ci G M
 em:∀q:Nat×ay,M.ps[ci]? =some q->q.2.ps= []
def rK(w:World)(B g n c k p m:Nat)(A:AS):Prop:=∃a G M b,eA w B g n c k p m a G M b A
theorem FI.up(h:FI gh G n c k p m A){c' k' p' m':Nat}(a:c<=c')(hk:k<=k')(hp:p<=p')(hm:m<=m'):FI gh G n c' k' p' m' A:=⟨h.si.up a,h.ab,h.rg.up hk hp,Nat.le_trans h.cn hm⟩
theorem eA.below(h:eA w B g n c k p m gh G M ci A)(hb:Below w.heap.size w w'):eA w' B g n c k p m gh G M ci A:=⟨h.fi,h.gr.below hb,h.em⟩
theorem eA.up(h:eA w B g n c k p m gh G M ci A){c' k' p' m':Nat}(a:c<=c')(hk:k<=k')(hp:p<=p')(hm:m<=m'):eA w B g n c' k' p' m' gh G M ci A:=⟨h.fi.up a hk hp hm,h.gr,h.em⟩
theorem rK.up(h:rK w B g n c k p m A){c' k' p' m':Nat}(f:c<=c')(hk:k<=k')(hp:p<=p')(hm:m<=m'):rK w B g n c' k' p' m' A:=by obtain⟨a,b,d,e,h⟩:=h;exact⟨a,b,d,e,h.up f hk hp hm⟩
theorem eA.pl(h:eA w B g n c k p m gh G M ci A):M.ps.length=n:=by rw[h.gr.rl,h.fi.si.rsl]
theorem eA.ml(h:eA w B g n c k p m gh G M ci A):M.ms.length=G.bag.length:=by rw[<-h.gr.ct.bq];simp
theorem eA.get(h:eA w B g n c k p m gh G M ci A){j:Nat}(a:j<n):∃p N,G.rs[j]? =some (A.r j)/\M.ps[j]? =some (p,N)/\RI gh n j (A.r j)/\(A.r j).out= []/\(A.r j).news= []/\aA w B g j G M:=by
 obtain⟨q,b⟩:∃q,M.ps[j]? =some q:=⟨_,List.getElem?_eq_getElem (by rw[h.pl];exact a)⟩
 obtain⟨f,e,d,o,l,i⟩:=h.fi.si.ri j _ (h.fi.ab.rs j a);exact⟨q.1,q.2,h.fi.ab.rs j a,b,f,e,d,h.gr.cur h.em j⟩
theorem vF(h:rK w B g n c k p m A)(h5:n<=5)(hc:c+5<=1000000)(hm:m+10<=3990)(hk:k+5<=1000000)(hp:p+5<=1900):
  Calls Tryz.prog 24 #[.pointer (some ⟨g,0,none⟩), .agg #[.int .i64 0, .int .i64 0, .int .i64 0, .slice none 0 0]] w fun e w'=>e= .returned (.tuple #[])/\rK w' B g n (c+5) (k+5) (p+5) (m+10) (AS.ticks n A)/\Below B w w':=by
 obtain⟨gh,G,M,ci,h⟩:=h;have hn1:=h.fi.si.n1;have hn7:=h.fi.si.n7;have a5:=h.pl;have a7:=h.ml;have ac:=h.fi.si.bagl;obtain⟨L,hL⟩:∃L,L=G.bag.length:=⟨_,rfl⟩
 obtain⟨D,z⟩:∃D,D=w.alloc (.cells #[.int .i64 0, .int .i64 0, .int .i64 0, .slice none 0 0] 60):=⟨_,rfl⟩
 have l:Below w.heap.size w D:=by rw[z];exact(Below.refl _ _).alloc (Nat.le_refl _) _
 obtain⟨H,a1⟩:∃H,H=w.heap.size:=⟨_,rfl⟩
 have d:D.heap[H]? =some (.cells #[.int .i64 0, .int .i64 0, .int .i64 0, .slice none 0 0] 60 (0,0)):=by rw[z,a1];exact heap_alloc_new w _
 have H1:=Hh (h.below l);have a0:∀V,eA V B g n c k p m gh G M ci A->V.cell? ⟨g,0,none⟩=some (.slice (M.ra 0) n (M.rc 0)):=fun V hV=>by rw[<-a5];exact hV.gr.cl (i:=0) (by omega)
 have aa:∀V,eA V B g n c k p m gh G M ci A->V.cell? ⟨g,4,none⟩=some (.slice (M.ra 4) L (M.rc 4)):=fun V hV=>by rw[hL,<-a7];exact hV.gr.cl (i:=4) (by omega)
 have HC0:=Hh a0;have HC4:=Hh aa;have c0:=a0 _ H1.out;have d1:D.cell? ⟨H,1,none⟩=some (.int .i64 0):=by rw[cell_of_row _ _ 1 _ _ _ d];rfl
 have HW1:=Hh z;have HBX:=Hh a1;have t:=Hh d;have P:=Hh l;have HBS:=Hh h.gr.bs;have HLQ:=Hh hL;clear h z d l hL a0 aa a7 a5 ac a1;go_enter Tryz.func24,Tryz.ntmps24
 go_wp2_with fail;rw[<-HBX.out,<-HW1.out];go_quiet (first | (go_at_call 58;refine Calls.quiet_of_same (lY 0 n (by omega) _)))
 obtain⟨I,hI⟩:∃I,I=pk 0 n:=⟨_,rfl⟩
 rw[<-hI];clear hI;obtain⟨C,a3⟩:∃C,C=D.drewN nq:=⟨_,rfl⟩
 rw[<-a3];have f:Below D.heap.size D C:=by rw[a3];exact below_drewN D nq
 have H2:=Hh (H1.out.below f);have c4:=HC4.out _ H2.out;have b:C.heap[H]? =some (.cells #[.int .i64 0, .int .i64 0, .int .i64 0, .slice none 0 0] 60 (0,0)):=(f.block _ (Array.getElem?_eq_some_iff.1 t.out).1).trans t.out;have d2:C.cell? ⟨H,2,none⟩=some (.int .i64 0):=by rw[cell_of_row _ _ 2 _ _ _ b];rfl
 have s:=Hh b;have O:=Hh (P.out.trans (f.mono P.out.size));have hL2:L<=2000:=by rw[HLQ.out];exact H1.out.fi.si.bagl
 clear f a3 b c0 d1;go_wp2_with fail;go_quiet (first | (go_at_call 58;refine Calls.quiet_of_same (lY 0 L (by omega) _)))
 obtain⟨K,hK⟩:∃K,K=pk 0 L:=⟨_,rfl⟩
 rw[<-hK];clear hK;obtain⟨W3,a2⟩:∃W3,W3=C.drewN nq:=⟨_,rfl⟩
 rw[<-a2];have y:Below C.heap.size C W3:=by rw[a2];exact below_drewN C nq
 have H3:=Hh (H2.out.below y);have o:W3.heap[H]? =some (.cells #[.int .i64 0, .int .i64 0, .int .i64 0, .slice none 0 0] 60 (0,0)):=(y.block _ (Array.getElem?_eq_some_iff.1 s.out).1).trans s.out;have d0:W3.cell? ⟨H,0,none⟩=some (.int .i64 0):=by rw[cell_of_row _ _ 0 _ _ _ o];rfl
 have J:=Hh (O.out.trans (y.mono O.out.size));obtain⟨wo,S⟩:∃wo:World,wo=w:=⟨_,rfl⟩
 have HWO:=Hh S;rw[<-S]at J HBS;have HBB:=Hh (J.out.mono HBS.out);clear y a2 o c4 d2 S;go_wp2_with fail;go_loopw [6] (fun iv wr=>∃j:Nat,iv= .int .i64 j/\j<=n/\rK wr B g n (c+j) (k+j) (p+j) (m+2*j) (AS.ticks j A)/\Below B w wr) (fun iv _=>n-(intOf iv).toNat)
 case atStart=>exact⟨0,rfl,by omega,⟨_,_,_,_,H3.out⟩,by rw[<-HWO.out];exact HBB.out⟩
 case round=>
  obtain⟨j,rfl,hjn,⟨g2,G2,M2,c2,h2⟩,ab⟩:=hrel;have H4:=Hh h2;have HBJ:=Hh ab;have c0:wr.cell? ⟨g,0,none⟩=some (.slice (M2.ra 0) n (M2.rc 0)):=by rw[<-h2.pl];exact h2.gr.cl (i:=0) (by omega)
  clear h2 ab;by_cases x:j<n
  ·have t1:decide ((j:Int)<(n:Int))=true:=decide_eq_true (by omega);have t1n:decide (j<n)=true:=decide_eq_true x;obtain⟨pp,N,hR,hq,W,ho,X,Y⟩:=H4.out.get x;obtain⟨Z,g',U⟩:=H4.out.fi.tick h5 (by omega) (by omega) (by omega) (by omega) x;obtain⟨R,ae⟩:∃R,R=(AS.ticks j A).r j:=⟨_,rfl⟩
   rw[<-ae]at hR W ho X Z U;have a6:=W.ok;obtain⟨b0,l,f, -⟩:=Y.ptr hq;rw[l]at c0;have HSI:=Hh U;have HCW:=Hh Z;have F:=Hh Y;have HR:=Hh hR;have HQ:=Hh hq;have a:=Hh a6;have HNO:=Hh (And.intro X ho);have hI0:(0:Int)<=(j:Int):=by omega
   have hI1:(j:Int)<(n:Int):=by omega
   clear hR hq W ho X Y a6 l Z U ae;go_wp2_with fail;refine(jY pp R N a.out.n1 a.out.n7 a.out.me0 a.out.men a.out.bt0 a.out.bt1 a.out.line a.out.xs a.out.tk0 (by have:=a.out.tk1;omega) (by rw[HNO.out.1];simp) (by rw[HNO.out.2];simp) _ (F.out.rf j R (pp,N) HR.out HQ.out)).mono ?_;rintro e w5 ⟨rfl,N1,a4,T⟩;have a9:=F.out.putRaft HR.out HQ.out a4 T;have HG5:=Hh a9;have HB5:=Hh (HBJ.out.trans (T.below (fun k hk=>F.out.inn (.raft j) k ⟨_,HQ.out,hk⟩) F.out.bs));have hq5:({ M2 with ps:=M2.ps.set j (pp,N1) }:bG).ps[j]? =some (pp,N1):=by show(M2.ps.set j _)[j]? =_;rw[aZ (List.getElem?_eq_some_iff.1 HQ.out).1,if_pos rfl]
   clear a9 a4 T c0 f;go_wp2_with fail;refine(eP HG5.out hq5 HCW.out).mono ?_;rintro e w6 ⟨rfl,M6,N6,a8,hp6,hn6,ad⟩;have HF:=Hh (show eA w6 B g n (c+(j+1)) (k+(j+1)) (p+(j+1)) (m+2*(j+1)) g' _ M6 j (AS.ticks (j+1) A) from⟨HSI.out.up (by omega) (by omega) (by omega) (by omega),a8,fun q v=>by rw[hp6]at v;injection v with v;subst v;exact hn6⟩);have HFB:=Hh (HB5.out.trans ad);clear a8 ad;go_wp2_with fail;go_roundw
   case rel=>exact⟨j+1,by go_num,by omega,⟨_,_,_,_,HF.out⟩,HFB.out⟩
   case measure=>simp[intOf];omega
  ·have t1:decide ((j:Int)<(n:Int))=false:=decide_eq_false (by omega);have t1n:decide (j<n)=false:=decide_eq_false x;have e:j=n:=by omega
   subst e;have HF:=Hh (show rK wr B g j (c+5) (k+5) (p+5) (m+10) (AS.ticks j A) from⟨_,_,_,_,H4.out.up (by omega) (by omega) (by omega) (by omega)⟩);go_wp2_with fail
   ((try simp only[Exit.inBlock,Exit.then]);refine bodyPost_ret (results_none rfl _ _ _) rfl ?_)
   exact⟨rfl,HF.out,HBJ.out⟩
theorem xj{f j:Nat}{x:ax}{l:List L3}(h:rK w B g n c k p m A)(h5:n<=5)(hc:c<=1000000)(hm:m<=3990)(hp:p<=1900)(hl:A.ls=(f,j,x)::l):
  Calls Tryz.prog 59 #[.pointer (some ⟨g,0,none⟩), .int .i64 0] w fun e w'=>e= .returned (.tuple #[])/\rK w' B g n (c+1) k p m A.del/\Below B w w':=by
 obtain⟨O,G,M,R,h⟩:=h;obtain⟨r,H,D,v,P,t⟩:=h.fi.del h5 hc hm hp hl;obtain⟨L,N,I,z,b,C,i,F⟩:=h.get D;refine(nu (k:=0) h.gr h.em H r.right h.fi.si.bagl h.fi.si.right I z b.ok (by rw[i];simp) (by rw[C];simp) v).mono ?_;rintro e J ⟨rfl,T,S,s,d,o,y⟩;exact⟨rfl,⟨_,_,_,_,t,s,fun q a=>by rw[d]at a;injection a with a;subst a;exact o⟩,y⟩
theorem uI(A:AS)(s:Nat):A.dels (s+1)=(A.dels s).del:=by rw[bZ];rfl
theorem uH(N n t:Nat)(A:AS):AS.fairs N n (t+1) A=(AS.fairs N n t A).fair1 N n:=by rw[cQ];rfl
theorem tC{N:Nat}(hN:N=4000)(d:Nat)(h:rK w B g n c k p m A)(h5:n<=5)(hm:m+10*d<=3980)(hk:k+5*d<=999990)(hp:p+5*d<=1890)(hc:c+4010*d<=990000):
  Calls Tryz.prog 25 #[.pointer (some ⟨g,0,none⟩), .int .i64 d] w fun e w'=>e= .returned (.tuple #[])/\rK w' B g n (c+4005*d) (k+5*d) (p+5*d) (m+10*d) (AS.fairs N n d A)/\Below B w w':=by
 have H:=Hh h;have HBS:=Hh (show Below B w w by obtain⟨_,_,_,_,F⟩:=h;exact(Below.refl _ _).mono F.gr.bs)
 clear h;go_enter Tryz.func25,Tryz.ntmps25
 go_wp2_with fail;obtain⟨wo,L⟩:∃wo:World,wo=w:=⟨_,rfl⟩
 have X:=Hh L;clear L;go_loopw [4] (fun tv wr=>∃t:Nat,tv= .int .i64 t/\t<=d/\rK wr B g n (c+4005*t) (k+5*t) (p+5*t) (m+10*t) (AS.fairs N n t A)/\Below B wo wr) (fun tv _=>d-(intOf tv).toNat)
 case atStart=>exact⟨0,rfl,by omega,H.out,by rw[X.out];exact HBS.out⟩
 case round=>
  obtain⟨t,rfl,ht,V,hb⟩:=hrel;have a0:=Hh V;have HB:=Hh hb;clear V hb;by_cases M:t<d
  ·have t1:decide ((t:Int)<(d:Int))=true:=decide_eq_true (by omega);have t1n:decide (t<d)=true:=decide_eq_true M;go_wp2_with fail;refine(vF a0.out h5 (by omega) (by omega) (by omega) (by omega)).mono ?_;rintro e w2 ⟨rfl,o,U⟩;obtain⟨r,D⟩:∃r,r=AS.ticks n (AS.fairs N n t A):=⟨_,rfl⟩
   rw[<-D]at o;have HA2:=Hh D;have C:=Hh o;have HB2:=Hh (HB.out.trans U);clear o U D;obtain⟨c2,hc2⟩:∃c2,c2=c+4005*t+5:=⟨_,rfl⟩
   rw[<-hc2]at C;go_wp2_with fail;go_loopw [5] (fun kv wx=>∃s:Nat,kv= .int .i64 s/\s<=N/\rK wx B g n (c2+s) (k+5*t+5) (p+5*t+5) (m+10*t+10) (r.dels s)/\Below B wo wx) (fun kv _=>N-(intOf kv).toNat)
   case atStart=>exact⟨0,rfl,by omega,C.out,HB2.out⟩
   case round=>
    obtain⟨s,rfl,hs,a,T⟩:=hrel;have z:=Hh (show(r.dels s).ls= []\/s=N->rK wr B g n (c+4005*(t+1)) (k+5*(t+1)) (p+5*(t+1)) (m+10*(t+1)) (AS.fairs N n (t+1) A) from fun F=>by
     have e:r.dels s=AS.fairs N n (t+1) A:=by
      rw[uH,AS.fair1,<-HA2.out];rcases F with F | F
      ·obtain⟨q,hq⟩:∃q,N=s+q:=⟨N-s,by omega⟩
       rw[hq,bZ,iq q F]
      ·rw[F]
     rw[<-e];exact a.up (by omega) (by omega) (by omega) (by omega))
    obtain⟨gh3,G3,M3,ci3,I⟩:=id a;have R:=I.fi.ab.bag;have v:G3.bag.length=(r.dels s).ls.length:=by rw[R,List.length_map]
    have P:=I.ml;have c4:wr.cell? ⟨g,4,none⟩=some (.slice (M3.ra 4) (r.dels s).ls.length (M3.rc 4)):=by rw[<-v,<-P];exact I.gr.cl (i:=4) (by omega)
    have cr:wr.cell? ⟨g,8,none⟩=some (.bool true):=by rw[<-I.fi.si.right];exact I.gr.cr
    have Z:=Hh a;have G:=Hh T;obtain⟨Q,hQ⟩:∃Q,Q=(r.dels s).ls.length:=⟨_,rfl⟩
    rw[<-hQ]at c4;have HQ:=Hh hQ;clear a T I R v P hQ;by_cases hsN:s<N
    ·have t2:decide ((s:Int)<4000)=true:=decide_eq_true (by omega);have t2n:decide (s<4000)=true:=decide_eq_true (by omega);by_cases O:0<Q
     ·have t3:decide ((0:Int)<(Q:Int))=true:=decide_eq_true (by omega);have t3n:decide (0<Q)=true:=decide_eq_true O;obtain⟨y,l,J⟩:∃y l,(r.dels s).ls=y::l:=by
       cases hy:(r.dels s).ls with
       | nil=>have:=HQ.out;rw[hy]at this;simp at this;omega
       | cons y l=>exact⟨y,l,rfl⟩
      obtain⟨f,j,x⟩:=y;have HYL:=Hh J;clear J;go_wp2_with fail;refine(xj Z.out h5 (by omega) (by omega) (by omega) HYL.out).mono ?_;rintro e w5 ⟨rfl,b,S⟩;rw[<-uI]at b;have Y:=Hh (b.up (c':=c2+(s+1)) (by omega) (Nat.le_refl _) (Nat.le_refl _) (Nat.le_refl _));have HB5:=Hh (G.out.trans S);clear b S;go_wp2_with fail;go_roundw
      case rel=>exact⟨s+1,by go_num,by omega,Y.out,HB5.out⟩
      case measure=>simp[intOf];omega
     ·have t3:decide ((0:Int)<(Q:Int))=false:=decide_eq_false (by omega);have t3n:decide (0<Q)=false:=decide_eq_false O;have W:=z.out (.inl (by have:=HQ.out;exact List.eq_nil_of_length_eq_zero (by omega)));have HF:=Hh W;clear W;go_wp2_with fail;go_roundw
      case rel=>exact⟨t+1,by go_num,by omega,HF.out,G.out⟩
      case measure=>simp[intOf];omega
    ·have t2:decide ((s:Int)<4000)=false:=decide_eq_false (by omega);have t2n:decide (s<4000)=false:=decide_eq_false (by omega);have W:=z.out (.inr (by omega));have HF:=Hh W;clear W;go_wp2_with fail;go_roundw
     case rel=>exact⟨t+1,by go_num,by omega,HF.out,G.out⟩
     case measure=>simp[intOf];omega
  ·have t1:decide ((t:Int)<(d:Int))=false:=decide_eq_false (by omega);have t1n:decide (t<d)=false:=decide_eq_false M;have e:t=d:=by omega
   subst e;go_wp2_with fail;go_end0;exact⟨rfl,a0.out,by rw[<-X.out];exact HB.out⟩
end
section
variable {w w' w1 : World} {B g n c k p m ci kk : Nat} {G : ac} {M : bG} {i : Nat} {gh : Gh} {A : AS}
theorem ww:∀(b:List fO),(∀y∈b,∃(f j:Nat) (x:ax),y=((f:Int),(j:Int),cG x)/\aO x=true)->∃ls:List L3,b=ls.map sH/\∀y∈ls,aO y.2.2=true
 | [],_=>⟨[],rfl,fun y c=>by cases c⟩
 | y::b,h=>by
  obtain⟨f,j,x,e,d⟩:=h y List.mem_cons_self;obtain⟨ls,i,g⟩:=ww b fun z a=>h z (List.mem_cons_of_mem _ a)
  refine⟨(f,j,x)::ls,by rw[List.map_cons,<-i,e];rfl,fun z a=> ?_⟩;rcases List.mem_cons.1 a with a | a
  ·rw[a];exact d
  ·exact g z a
theorem wi:∀l:List aa,(l.map jk).sum<=l.length
 | []=>Nat.le_refl _
 | x::l=>by have b:=wi l;have a:=ws x;rw[List.map_cons,List.sum_cons,List.length_cons];omega
theorem xP.toF(h:xP w B g n c kk)(h5:n<=5)(hk:kk<=1000000):∃A,rK w B g n c kk kk (c+5) A:=by
 obtain⟨s,G,M,v,h⟩:=h;obtain⟨o,d,b⟩:=ww G.bag fun y p=>by
  obtain⟨f,x,d,b,m⟩:=h.si.bag y p;have l:=m.w0;refine⟨f,y.2.1.toNat,x,?_,m.right⟩;obtain⟨k,a,e⟩:=y;have d:k=_:=d;have b:e=_:=b;have l:0<=a:=l;show(k,a,e)=((f:Int),((a.toNat:Nat):Int),cG x)
  rw[d,b,show((a.toNat:Nat):Int)=a by omega]
 refine⟨⟨fun j=>G.rs.getD j (aa.new 0 1),o⟩,s,G,M,v,⟨h.si.toSI.up (Nat.le_refl _),⟨h.si.rsl,fun i r=> ?_,d,b⟩,h.si.rc.rg h.si.n1 h5 hk,?_⟩,h.gr,h.em⟩
 ·have q:i<G.rs.length:=by rw[h.si.rsl];exact r
  show G.rs[i]? =some (G.rs.getD i _);rw[List.getD_eq_getElem?_getD,List.getElem?_eq_getElem q];rfl
 ·have t:=wi G.rs;rw[h.si.rsl]at t;have z:=h.si.cnt;omega
theorem eA.lk(h:eA w B g n c k p m gh G M ci A):Kn n c k p m A:= .of h.fi
end
section
variable {w w' w1 : World} {B g n c m : Nat} {G : ac} {M : bG}
theorem uZ(h:aA w B g c G M){k:Nat}{x:ar}(l:G.seen[k]? =some x):∃(b:Nat) (ms:af),w.cell? ⟨g,5,none⟩=some (.slice (some ⟨b,0,none⟩) G.seen.length (M.rc 5))/\w.cell? ⟨b,k*2+1,none⟩=some (.slice ms.a ms.n ms.c)/\ms.it=x/\OwnBs 5 w ms:=by
 have e:M.ss.length=G.seen.length:=by rw[<-h.ct.sq];simp
 have s:=(List.getElem?_eq_some_iff.1 l).1;obtain⟨ms,d⟩:∃ms,M.ss[k]? =some ms:=⟨_,List.getElem?_eq_getElem (by omega)⟩
 have f:ms.it=x:=by
  have m:(M.ss.map af.it)[k]? =some x:=by rw[h.ct.sq];exact l
  rw[List.getElem?_map,d]at m;injection m
 obtain⟨q,r,p,_,t⟩:=h.at_ (i:=5) (by omega) (j:=k*2+1) (by show k*2+1<M.ss.length*2;omega);refine⟨q,ms,?_,p.trans (dF _ _ _ d).2,f,h.ct.sb ms (List.mem_of_getElem? d)⟩;have o:=h.cl (i:=5) (by omega);rw[o,<-r,<-e];rfl
end
theorem mR(a0:Nat)(h0:a0<256)(l:List dB)(a:Option Addr)(c:Nat)(ba:Option Addr)(bc:Nat)(b:List UInt8)(w:World)(hs:SlAt w w.heap.size 4 a l.length c (gQ l))(hr:∀m∈l,m.Is w w.heap.size)(hbs:b.length<=140737488355328->aM w w.heap.size ba b.length bc b):
  Calls Tryz.prog 5 #[.int .u8 a0, .slice a l.length c, .slice ba b.length bc] w fun e w'=>e= .returned (.bool true)/\Below w.heap.size w w':=by
 have HS:=Hh hs;have HX:=Hh hr;have HY:=Hh hbs;have hmax:=hs.hmax;have hle:=hs.hle;unfold maxLen at hmax;clear hs hr hbs;cases hg:lu l with
 | true=>
  go_enter Tryz.func5,Tryz.ntmps5
  go_wp2_with fail;refine(mo l a c _ HS.out).mono ?_;rintro e w1 ⟨rfl,rfl⟩;rw[hg];clear hg;go_wp2_with fail;refine(ko _).mono ?_;rintro e w2 ⟨rfl,f⟩;have I:=Hh f;clear f;go_wp2;go_ret;exact⟨rfl,I.out⟩
 | false=>
 by_cases x:50<b.length
 ·have t1:decide ((50:Int)<(b.length:Int))=true:=decide_eq_true (by omega);have Z:decide (50<b.length)=true:=decide_eq_true x;go_enter Tryz.func5,Tryz.ntmps5
  go_wp2_with fail;refine(mo l a c _ HS.out).mono ?_;rintro e w1 ⟨rfl,rfl⟩;rw[hg];clear hg;go_wp2_with fail;refine(ko _).mono ?_;rintro e w2 ⟨rfl,f⟩;have I:=Hh f;clear f;go_wp2;go_ret;exact⟨rfl,I.out⟩
 have t1:decide ((50:Int)<(b.length:Int))=false:=decide_eq_false (by omega);have Z:decide (50<b.length)=false:=decide_eq_false x;by_cases hb0:b.length<1
 ·have t2:decide ((b.length:Int)<1)=true:=decide_eq_true (by omega);have t2n:decide (b.length<1)=true:=decide_eq_true hb0;go_enter Tryz.func5,Tryz.ntmps5
  go_wp2_with fail;refine(mo l a c _ HS.out).mono ?_;rintro e w1 ⟨rfl,rfl⟩;rw[hg];clear hg;go_wp2_with fail;refine(ko _).mono ?_;rintro e w2 ⟨rfl,f⟩;have I:=Hh f;clear f;go_wp2;go_ret;exact⟨rfl,I.out⟩
 have t2:decide ((b.length:Int)<1)=false:=decide_eq_false (by omega);have t2n:decide (b.length<1)=false:=decide_eq_false hb0;have HG:=Hh (qO hg);have hl150:=(qO hg).1;obtain⟨k,hk⟩:∃k:Nat,1+(a0:Int)%5=(k:Int):=⟨1+a0%5,by omega⟩
 have a6:1<=k/\k<=7:=by omega
 have W:k<=5:=by omega
 go_enter Tryz.func5,Tryz.ntmps5
 go_wp2_with fail;refine(mo l a c _ HS.out).mono ?_;rintro e w1 ⟨rfl,rfl⟩;rw[hg];clear hg;go_wp2_with fail;clear hk;refine(xh k a6.1 a6.2 _).mono ?_;rintro e w2 ⟨g,M,rfl,hg2,f⟩;have HA2:=Hh (wy a6.1 a6.2 hg2);have I:=Hh f;clear hg2 f;go_wp2_with fail;obtain⟨wo,hwo⟩:∃wo:World,wo=w:=⟨_,rfl⟩
 rw[<-hwo]at HS HX HY I HA2;have HWO:=Hh hwo;clear hwo;go_loopw [8] (fun iv wr=>∃i:Nat,iv= .int .i64 i/\i<=l.length/\xP wr wo.heap.size g k (7*i) (5*i)/\Below wo.heap.size wo wr) (fun iv _=>l.length-(intOf iv).toNat)
 case atStart=>exact⟨0,rfl,by omega,HA2.out,I.out⟩
 case round=>
  obtain⟨i,rfl,hi,hat,hbe⟩:=hrel;have HAT:=Hh hat;have HBE:=Hh hbe;have hsz:=hbe.size;clear hat hbe;by_cases a7:i<l.length
  ·have t1:decide ((i:Int)<(l.length:Int))=true:=by simpa using a7
   have Z:decide (i<l.length)=true:=by simpa using a7
   obtain⟨m,hm⟩:∃m,l[i]? =some m:=⟨_,List.getElem?_eq_getElem a7⟩
   have hml:=List.mem_of_getElem? hm;obtain⟨b9,o,rfl,hb,hc⟩:=HS.out.hat (by have:=gP l;omega);have hcl:=gP l;have a2:∀j v,j<4->m.cells[j]? =some v->wr.cell? ⟨b9,o+i*4+j,none⟩=some v:=fun j v hj hv=>by rw[HBE.out.cell (p:=⟨b9,o+i*4+j,none⟩) hb,Nat.add_assoc,hc _ (by omega),kY l i m hm j hj,hv]
   have k0:wr.cell? ⟨b9,o+i*4,none⟩=some (.int .i64 m.d):=a2 0 _ (by omega) rfl;have k1:wr.cell? ⟨b9,o+i*4+1,none⟩=some (.int .i64 m.i):=a2 1 _ (by omega) rfl;have k2:wr.cell? ⟨b9,o+i*4+2,none⟩=some (.int .i64 m.k):=a2 2 _ (by omega) rfl;have k3:wr.cell? ⟨b9,o+i*4+3,none⟩=some (.slice m.a m.b.length m.c):=a2 3 _ (by omega) rfl;have hi0:(0:Int)<=(i:Int):=by omega
   have hi1:(i:Int)<(l.length:Int):=by omega
   have hmb:=HG.out.2 m hml;have HMB:=Hh (((HX.out m hml (by omega)).below HBE.out (Nat.le_refl _)).mono hsz);clear hc hcl a2 hm hml;go_wp2_with fail;clear k0 k1 k2 k3;refine(xg HAT.out W (by omega) HMB.out hmb).mono ?_;rintro e w3 ⟨rfl,F,aa⟩;have HAT3:=Hh F;have HB3:=Hh (HBE.out.trans aa);clear F aa;go_wp2_with fail;go_roundw
   case rel=>exact⟨i+1,by go_num,by omega,by rw[show 7*(i+1)=7*i+7 by omega,show 5*(i+1)=5*i+5 by omega];exact HAT3.out,HB3.out⟩
   case measure=>simp[intOf];omega
  ·have t1:decide ((i:Int)<(l.length:Int))=false:=by simpa using a7
   have Z:decide (i<l.length)=false:=by simpa using a7
   obtain⟨A,hA⟩:=HAT.out.toF W (by omega);have hA:=hA.up (c':=1050) (k':=750) (p':=750) (m':=1055) (by omega) (by omega) (by omega) (by omega);obtain⟨N,hN⟩:∃N,N=4000:=⟨_,rfl⟩
   have hlk:Kn k 1050 750 750 1055 A:=by obtain⟨_,_,_,_,h9⟩:=hA;exact h9.lk
   have HLIVE:=Hh (vz a6.1 hN W (by omega) (by omega) (by omega) hlk);have HFA:=Hh (tC hN 150 hA W (by omega) (by omega) (by omega) (by omega));clear hA hlk;go_wp2_with fail;refine HFA.out.mono ?_;rintro e w3 ⟨rfl,F,aa⟩;obtain⟨D,hD⟩:∃D,D=AS.fairs N k 150 A:=⟨_,rfl⟩
   have hlv:=HLIVE.out;rw[<-hD]at F hlv;obtain⟨L,hLk,a5,a3,hpr⟩:=hlv;have HPR:=Hh hpr;obtain⟨gh,G,M,ci,h3⟩:=F;have H3:=Hh h3;have HB3:=Hh (HBE.out.trans aa);have hsz3:=HB3.out.size;have hpl3:=h3.pl;obtain⟨p0,N0,hR0,hq0,hri0, -, -,a9⟩:=h3.get (j:=0) (by omega);obtain⟨pL,NL,H,y,B,hoL,hnL,s⟩:=h3.get hLk;obtain⟨b0,x,f, -⟩:=a9.ptr hq0;obtain⟨b0',t,ab, -⟩:=s.ptr y;have e9:b0=b0':=by rw[x]at t;injection t with h;injection h
   subst e9;have c0:w3.cell? ⟨g,0,none⟩=some (.slice (some ⟨b0,0,none⟩) k (M.rc 0)):=by rw[<-hpl3,<-x];exact h3.gr.cl (i:=0) (by omega)
   have cr:w3.cell? ⟨g,8,none⟩=some (.bool true):=by rw[<-h3.fi.si.right];exact h3.gr.cr
   have V:=gD (a9.rf 0 _ (p0,N0) hR0 hq0);rw[a5]at V;have HLD:=Hh V;have hrl:=jZ (s.rf L _ (pL,NL) H y);rw[a3]at hrl;have HRL:=Hh hrl;obtain⟨R,hRe⟩:∃R,R=D.r L:=⟨_,rfl⟩
   obtain⟨hcw,g',hfi⟩:=h3.fi.propose (b:=b) W (by omega) (by omega) (by omega) hLk (by omega);rw[<-hRe]at H B hoL hnL hcw hfi hpr;have J:=B.ok;have hbs3:=((HY.out (by omega)).below HB3.out (Nat.le_refl _)).mono hsz3;have hpc:=i5 pL R NL ba bc b J.n1 J.n7 J.me0 J.men J.line J.xs (by rw[hnL];simp) (by rw[hoL];simp) w3 hbs3 (s.rf L R (pL,NL) H y);obtain⟨hp1,hp2⟩:=hpr b (by omega) (by omega);obtain⟨z9,hz9⟩:∃z9,z9=(R.propose b).2.1:=⟨_,rfl⟩
   rw[hp1,<-hz9]at hpc;rw[<-hz9]at hp2;obtain⟨P,hPe⟩:∃P,P=(R.propose b).1:=⟨_,rfl⟩
   rw[<-hPe]at hpc hp2 hcw hfi;have HPC:=Hh hpc;have HP2:=Hh hp2;have HCW:=Hh hcw;have HFI:=Hh hfi;have HGL:=Hh s;have HQL:=Hh y;have HRR:=Hh H;have hL0:(0:Int)<=(L:Int):=by omega
   have hL1:(L:Int)<(k:Int):=by omega
   have u1:decide ((L:Int)<0)=false:=decide_eq_false (by omega);have u2:decide ((k:Int)<=(L:Int))=false:=decide_eq_false (by omega);have u2n:decide (k<=L)=false:=decide_eq_false (by omega);have h0k:(0:Int)<(k:Int):=by omega
   have HD:=Hh hD;clear h3 hR0 hq0 hri0 a9 H y B hoL hnL s x t V hrl hcw hfi hpr J hbs3 hpc hp1 hp2 hz9 aa hpl3 hRe hPe hD a5 a3;go_wp2_with fail;refine HLD.out.mono ?_;rintro e w4 ⟨rfl,rfl⟩;go_wp2_with fail;refine HRL.out.mono ?_;rintro e w4 ⟨rfl,rfl⟩;go_wp2_with fail;refine HPC.out.mono ?_;rintro e w5 ⟨rfl,N1,hr5,ht5⟩;have hg5:=HGL.out.putRaft HRR.out HQL.out hr5 ht5;have HG5:=Hh hg5;have HB5:=Hh (HB3.out.trans (ht5.below (fun k hk=>HGL.out.inn (.raft L) k ⟨_,HQL.out,hk⟩) HGL.out.bs));have hq5:({ M with ps:=M.ps.set L (pL,N1) }:bG).ps[L]? =some (pL,N1):=by show(M.ps.set L _)[L]? =_;rw[aZ (List.getElem?_eq_some_iff.1 HQL.out).1,if_pos rfl]
   clear hg5 hr5 ht5 c0 cr f ab;go_wp2_with fail;refine(eP HG5.out hq5 HCW.out).mono ?_;rintro e w6 ⟨rfl,M6,N6,hg6,hp6,hn6,hb6⟩;have hat6:rK w6 wo.heap.size g k (1050+4005*150+1) (750+5*150+4) (750+5*150+4) (1055+10*150+2) (D.put L P):=⟨_,_,_,_,HFI.out,hg6,fun q hq9=>by rw[hp6]at hq9;injection hq9 with hq9;subst hq9;exact hn6⟩
   have HB6:=Hh (HB5.out.trans hb6);have HFB:=Hh (tC hN 12 hat6 W (by omega) (by omega) (by omega) (by omega));clear hg6 hp6 hb6 hat6;go_wp2_with fail;refine HFB.out.mono ?_;rintro e w7 ⟨rfl,hat7,hb7⟩;obtain⟨E,hE⟩:∃E,E=AS.fairs N k 12 (D.put L P):=⟨_,rfl⟩
   have T:=HP2.out;rw[<-hE]at hat7 T;obtain⟨gh7,G7,M7,c7,h7⟩:=hat7;have HR7:=Hh h7;obtain⟨f1,f2,⟨tm,f3⟩,f4,f5⟩:=h7.fi.fin T;obtain⟨a1,ha1⟩:∃a1:Nat,z9=a1:=⟨z9.toNat,by omega⟩
   subst ha1;rw[Int.toNat_natCast]at f2 f3;have HF3:=Hh f3;have HF4:=Hh f4;have HFIN:=Hh T;have HB7:=Hh (HB6.out.trans hb7);have hf1:1<=a1/\a1<=1099511627776:=by omega
   clear h7 hb7 T f1 f3 f4 f5;go_wp2_with fail;go_loopw [12] (fun iv wr=>∃i:Nat,iv= .int .i64 i/\i<=k/\eA wr wo.heap.size g k _ _ _ _ gh7 G7 M7 c7 E/\Below wo.heap.size wo wr) (fun iv _=>k-(intOf iv).toNat)
   case atStart=>exact⟨0,rfl,by omega,HR7.out,HB7.out⟩
   case round=>
    obtain⟨i,rfl,hi,Y,C⟩:=hrel;have H8:=Hh Y;have U:=Hh C;have a4:=Y.pl;have c0:wr.cell? ⟨g,0,none⟩=some (.slice (M7.ra 0) k (M7.rc 0)):=by rw[<-a4];exact Y.gr.cl (i:=0) (by omega)
    by_cases a8:i<k
    ·have t1:decide ((i:Int)<(k:Int))=true:=decide_eq_true (by omega);have Z:decide (i<k)=true:=decide_eq_true a8;obtain⟨pi,Ni,hRi,hqi,hrii, -, -,S⟩:=Y.get a8;obtain⟨pL,NL,H,y,B, -, -,s⟩:=Y.get hLk;obtain⟨b0,x,f, -⟩:=S.ptr hqi;obtain⟨b0',t,ab, -⟩:=s.ptr y;have e9:b0=b0':=by rw[x]at t;injection t with h;injection h
     subst e9;rw[x]at c0;obtain⟨d1,d2,d3⟩:=HFIN.out.all i a8;obtain⟨T9,hT9⟩:∃T9,T9=(E.r L).bt:=⟨_,rfl⟩
     have V:∀O,Calls Tryz.prog 26 #[.pointer (some ⟨pi,0,none⟩)] (wr.drewN O) fun e w'=>e= .returned (.int .i64 (L:Nat))/\w'=wr.drewN O:=fun O=>by have h:=gD ((S.below (below_drewN wr O)).rf i _ (pi,Ni) hRi hqi);rw[d1]at h;exact h.mono fun e w' h=>⟨h.1,h.2.symm⟩
     have ht1:∀O,Calls Tryz.prog 28 #[.pointer (some ⟨pi,0,none⟩)] (wr.drewN O) fun e w'=>e= .returned (.int .i64 T9)/\w'=wr.drewN O:=fun O=>by have h:=gZ ((S.below (below_drewN wr O)).rf i _ (pi,Ni) hRi hqi);rw[d2,<-hT9]at h;exact h.mono fun e w' h=>⟨h.1,h.2.symm⟩
     have ht2:∀O,Calls Tryz.prog 28 #[.pointer (some ⟨pL,0,none⟩)] (wr.drewN O) fun e w'=>e= .returned (.int .i64 T9)/\w'=wr.drewN O:=fun O=>by have h:=gZ ((s.below (below_drewN wr O)).rf L _ (pL,NL) H y);rw[<-hT9]at h;exact h.mono fun e w' h=>⟨h.1,h.2.symm⟩
     obtain⟨z,hz1,hz2⟩:=HF4.out i a8;have hatl:=Y.fi.si.atl;obtain⟨b3,h31,c3,k3, -⟩:=Y.gr.rowAt (j:=3) (by omega) rfl (k:=i) (by show i<G7.ats.length;omega);replace c3:wr.cell? ⟨g,3,none⟩=some (.slice (some ⟨b3,0,none⟩) k (M7.rc 3)):=by rw[c3];congr 2
     replace k3:wr.cell? ⟨b3,i,none⟩=some (.int .i64 z):=by rw[k3];show(G7.ats.map iz)[i]? =_;rw[List.getElem?_map,hz1];rfl
     have u3:decide (z<(a1:Int))=false:=decide_eq_false (by omega);have HLD:=Hh V;have HT1:=Hh ht1;have HT2:=Hh ht2;have hi0:(0:Int)<=(i:Int):=by omega
     have hi1:(i:Int)<(k:Int):=by omega
     clear Y C hRi hqi hrii S H y B s x t d1 d2 d3 V ht1 ht2 hT9 hz1 hz2 hatl h31 a4;go_wp2_with fail;go_quiet (first
      | (go_at_call 26;refine Calls.quiet_of_same (HLD.out _))
      | (go_at_call 28;refine Calls.quiet_of_same (HT1.out _))
      | (go_at_call 28;refine Calls.quiet_of_same (HT2.out _)))
     obtain⟨w8,hw8⟩:∃w8,w8=wr.drewN nq:=⟨_,rfl⟩
     rw[<-hw8];have X:Below wr.heap.size wr w8:=by rw[hw8];exact below_drewN wr nq
     have HR8:=Hh (H8.out.below X);have HBE9:=Hh (U.out.trans (X.mono U.out.size));clear X hw8 c0 c3 k3 f ab;go_wp2_with fail;go_roundw
     case rel=>exact⟨i+1,by go_num,by omega,HR8.out,HBE9.out⟩
     case measure=>simp[intOf];omega
    ·have t1:decide ((i:Int)<(k:Int))=false:=decide_eq_false (by omega);have Z:decide (i<k)=false:=decide_eq_false a8;have cr:wr.cell? ⟨g,8,none⟩=some (.bool true):=by rw[<-Y.fi.si.right];exact Y.gr.cr
     obtain⟨b5,ms,c5,k5,hms,hmso⟩:=uZ Y.gr HF3.out;obtain⟨q,hq⟩:∃q,q=a1-1:=⟨_,rfl⟩
     rw[<-hq]at k5;obtain⟨SL,hSL⟩:∃SL,SL=G7.seen.length:=⟨_,rfl⟩
     rw[<-hSL]at c5;have wq:IntKind.i64.wrap ((a1:Int)-1)=(q:Int):=by rw[IntWalk.i64_in _ (by omega)];omega
     have u4:decide ((a1:Int)<=(SL:Int))=true:=decide_eq_true (by omega);have u4n:decide (a1<=SL)=true:=decide_eq_true (by omega);have u5:decide ((1:Int)<=(a1:Int))=true:=decide_eq_true (by omega);have u5n:decide (1<=a1)=true:=decide_eq_true (by omega);have hq0:(0:Int)<=(q:Int):=by omega
     have hq1:(q:Int)<(SL:Int):=by omega
     have HMS:=Hh (show decide (ms.b=b)=true by have h9:=congrArg Prod.snd hms;exact decide_eq_true h9)
     have HMSO:=Hh hmso;have HBY:=Hh (((HY.out (by omega)).below C (Nat.le_refl _)).mono C.size);clear Y C a4 hms hmso hq hSL;go_wp2_with fail;refine(sZ ms.b b ms.a ba ms.n ms.c b.length bc _ HMSO.out.1 HBY.out).mono ?_;rintro e w8 ⟨rfl,X⟩;rw[HMS.out];have HB8:=Hh (U.out.trans (X.mono U.out.size));clear X;go_wp2_with fail;refine(ko _).mono ?_;rintro e w9 ⟨rfl,hb9⟩;have HB9:=Hh (HB8.out.trans (hb9.mono HB8.out.size));clear hb9;go_wp2;go_ret;exact⟨rfl,by rw[<-HWO.out];exact HB9.out⟩
end Go.Proofs.YtogcnfhmcpkdcaaGreat
