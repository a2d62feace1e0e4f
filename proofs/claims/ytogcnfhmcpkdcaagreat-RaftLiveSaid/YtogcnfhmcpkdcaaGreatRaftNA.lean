/-
Contracts of News, Out, Jump, Line, follows.
-/
import Derived.Test.YtogcnfhmcpkdcaaGreatRaftLaw3
import Derived.Test.YtogcnfhmcpkdcaaGreatRaftM3
set_option maxHeartbeats 2000000
set_option maxRecDepth 100000
namespace Go.Proofs.YtogcnfhmcpkdcaaGreat
open Go.RowKit
set_option linter.unusedVariables false
set_option linter.unusedSimpArgs false
section
variable {w : World} {p : Nat} {R : aa} {M : ay}
theorem ao.clearNews(h:ao w p R M):ao (w.setCell ⟨p,33,none⟩ (.slice none 0 0)) p { R with news:= [] } { M with na:=none,nc:=0,ns:= [] }/\ah p M { M with na:=none,nc:=0,ns:= [] } w (w.setCell ⟨p,33,none⟩ (.slice none 0 0)):=by
 have a:∀k,k≠p->(w.setCell ⟨p,33,none⟩ (.slice none 0 0)).heap[k]? =w.heap[k]? :=fun k b=>Below.heap_setCell _ _ _ k b
 obtain⟨m,l,n,i, -⟩:=h.apart;have hT:ah p M { M with na:=none,nc:=0,ns:= [] } w (w.setCell ⟨p,33,none⟩ (.slice none 0 0)):=by
  refine⟨rfl,rfl,rfl,by simp,fun k b c=>a k (fun e=>c (.inl e)),fun k b=> ?_⟩;rcases b with e | e | e | e | e
  ·exact .inl (.inl e)
  ·exact .inl (.inr (.inl e))
  ·exact .inl (.inr (.inr (.inl e)))
  ·cases e
  ·exact .inl (.inr (.inr (.inr (.inr e))))
 have f:=heap_setCell_same w p 33 _ _ (.slice none 0 0) h.row;refine⟨⟨h.sv.cp rfl rfl rfl,?_,h.lnKeep hT (a _ m) fun k b=>a k (fun e=>l (by rw[<-e];exact b)),h.keeps hT h.st,⟨rfl, .inl ⟨rfl,rfl⟩⟩,by simp,rfl,aE h.ou fun g d=>a g (fun e=>by rw[al]at d;exact i (by rw[<-e];exact d)),h.oq,h.postKeep hT rfl rfl⟩,hT⟩;rw[f,<-dt (R:=R) (R':={ R with news:= [] }) (M:=M) (M':={ M with na:=none,nc:=0,ns:= [] }) h.sv (j:=1) (x:= .slice none 0 0) (by omega) (by simp[je]) rfl rfl rfl rfl]
 simp
theorem ao.clearOut(h:ao w p R M):ao (w.setCell ⟨p,34,none⟩ (.slice none 0 0)) p { R with out:= [] } { M with oa:=none,on:=0,oc:=0,ocs:= [],ps:= [] }/\ah p M { M with oa:=none,on:=0,oc:=0,ocs:= [],ps:= [] } w (w.setCell ⟨p,34,none⟩ (.slice none 0 0)):=by
 have a:∀k,k≠p->(w.setCell ⟨p,34,none⟩ (.slice none 0 0)).heap[k]? =w.heap[k]? :=fun k b=>Below.heap_setCell _ _ _ k b
 obtain⟨o,n,l,q, -⟩:=h.apart;have hT:ah p M { M with oa:=none,on:=0,oc:=0,ocs:= [],ps:= [] } w (w.setCell ⟨p,34,none⟩ (.slice none 0 0)):=by
  refine⟨rfl,rfl,rfl,by simp,fun k b c=>a k (fun e=>c (.inl e)),fun k b=> ?_⟩;rcases b with e | e | e | e | e
  ·exact .inl (.inl e)
  ·exact .inl (.inr (.inl e))
  ·exact .inl (.inr (.inr (.inl e)))
  ·exact .inl (.inr (.inr (.inr (.inl e))))
  ·cases e
 have i:=heap_setCell_same w p 34 _ _ (.slice none 0 0) h.row;refine⟨⟨h.sv.cp rfl rfl rfl,?_,h.lnKeep hT (a _ o) fun k b=>a k (fun e=>n (by rw[<-e];exact b)),h.keeps hT h.st,aE h.nw fun g d=>a g (fun e=>by rw[al]at d;exact l (by rw[<-e];exact d)),fun m f=>h.keeps hT (h.nb m f),h.nq,⟨rfl, .inl ⟨rfl,rfl⟩⟩,rfl,⟨rfl,rfl,by simp,by simp⟩⟩,hT⟩;rw[i,<-dt (R:=R) (R':={ R with out:= [] }) (M:=M) (M':={ M with oa:=none,on:=0,oc:=0,ocs:= [],ps:= [] }) h.sv (j:=2) (x:= .slice none 0 0) (by omega) (by simp[je]) rfl rfl rfl rfl]
 simp
theorem ao.setJumped(h:ao w p R M)(b:Bool):ao (w.setCell ⟨p,32,none⟩ (.bool b)) p { R with jumped:=b } M/\ah p M M w (w.setCell ⟨p,32,none⟩ (.bool b)):=h.set 32 (.bool b) (dt (R':={ R with jumped:=b }) h.sv (j:=0) (by omega) rfl rfl rfl rfl rfl) (h.sv.cp rfl rfl rfl) rfl rfl rfl rfl
theorem vb(h:ao w p R M):Calls Tryz.prog 17 #[.pointer (some ⟨p,0,none⟩)] w fun e w'=>e= .returned (.slice M.na M.ns.length M.nc)/\w'=w.setCell ⟨p,33,none⟩ (.slice none 0 0):=by
 have c:=h.tails.2.1;have f:=h.f 33;clear h;go_enter Tryz.func17,Tryz.ntmps17
 go_wp2;go_ret;exact⟨rfl,rfl⟩
theorem x3(h:ao w p R M):Calls Tryz.prog 21 #[.pointer (some ⟨p,0,none⟩)] w fun e w'=>e= .returned (.slice M.oa M.on M.oc)/\w'=w.setCell ⟨p,34,none⟩ (.slice none 0 0):=by
 have c:=h.tails.2.2;have f:=h.f 34;clear h;go_enter Tryz.func21,Tryz.ntmps21
 go_wp2;go_ret;exact⟨rfl,rfl⟩
def pY(p:Nat)(R:aa)(M:ay)(w:World)(e:Ending)(w':World):Prop:=
 match R.jump.2 with
 | none=>e= .returned (.tuple #[.slice none 0 0, .bool false])/\w'=w
 | some s=>∃a c,e= .returned (.tuple #[.slice a s.length c, .bool true])/\cS w' a c s/\∃b,ao w' p R.jump.1 b/\ah p M b w w'
theorem vf(h:ao w p R M):Calls Tryz.prog 16 #[.pointer (some ⟨p,0,none⟩)] w (pY p R M w):=by
 cases hj:R.jumped with
 | false=>
  have c:w.cell? ⟨p,32,none⟩=some (.bool false):=by have d:=h.tails.1;rw[hj]at d;exact d
  have n:=Hh (show R.jump=(R,none) by unfold aa.jump;rw[if_neg (by rw[hj];decide)]);clear h hj;go_enter Tryz.func16,Tryz.ntmps16
  go_wp2;go_ret2;unfold pY;rw[n.out];exact⟨rfl,rfl⟩
 | true=>
  have c:w.cell? ⟨p,32,none⟩=some (.bool true):=by have d:=h.tails.1;rw[hj]at d;exact d
  have f:=h.f 32;have n:=Hh (show R.jump=({ R with jumped:=false,news:= [] },some R.state) by unfold aa.jump;rw[if_pos hj]);obtain⟨r,q⟩:=h.setJumped false;have j:=h.tails.2.1;have i:=h.f 33;have c5:w.cell? ⟨p,5,none⟩=some (.slice M.sa R.state.length M.sc):=h.c rfl;obtain⟨g,k⟩:=r.clearNews;obtain⟨V,hV⟩:∃V,V=(w.setCell ⟨p,32,none⟩ (.bool false)).setCell ⟨p,33,none⟩ (.slice none 0 0):=⟨_,rfl⟩
  rw[<-hV]at g k;have t:=Hh g;have s:=Hh (q.trans k);have v:=Hh hV;clear r q g k h hj hV;go_enter Tryz.func16,Tryz.ntmps16
  go_wp2_with fail;rw[<-v.out];clear c f j i;refine(iU R.state M.sa M.sc _ t.out.st.1).mono ?_;rintro e x ⟨g,c2,rfl,a,b⟩;have o:=Hh a;have m:=Hh (t.out.below b);have l:=Hh (s.out.andBelow (b.mono s.out.size));clear a b c5;go_wp2;go_ret2;unfold pY;rw[n.out];exact⟨g,c2,rfl,o.out,_,m.out,l.out⟩
theorem qx(f:R.line.Good)(h:ao w p R M):Calls Tryz.prog 29 #[.pointer (some ⟨p,0,none⟩)] w fun e w'=>∃q la lc,e= .returned (.pointer (some ⟨q,0,none⟩))/\cE w' w.heap.size q R.line la lc M.ms/\Below w.heap.size w w'/\w.heap.size<=q:=by
 have c4:w.cell? ⟨p,4,none⟩=some (.pointer (some ⟨M.lb,0,none⟩)):=h.c rfl;have g:=Hh h.ln;clear h;go_enter Tryz.func29,Tryz.ntmps29
 go_wp2_with fail;refine(qR 0 M.lb R.line f M.la M.lc M.ms _ g.out).mono ?_;rintro e l ⟨q,la,lc,rfl,d,b,a⟩;have k:=Hh d;have j:=Hh b;have i:=Hh a;clear d b a;go_wp2;go_ret;exact⟨q,la,lc,rfl,k.out,j.out,i.out⟩
end
section
variable {w w' : World} {p : Nat} {R : aa} {M M' : ay}
theorem SlAt.touch{d:Nat}{a:Option Addr}{n c:Nat}{xs:List Value}(h:SlAt w w.heap.size d a n c xs)(ht:ah p M M' w w')(hf:0<xs.length->∀ad,a=some ad->¬M.own p ad.block):SlAt w' w'.heap.size d a n c xs:=⟨h.hlen,h.hle,h.hmax,h.hnil,fun f=>let ⟨b,o,e,hl,hc⟩:=h.hat f;⟨b,o,e,Nat.lt_of_lt_of_le hl ht.size,fun i g=>(ht.cell hl (hf f _ e)).trans (hc i g)⟩⟩
theorem aM.touch{a:Option Addr}{n c:Nat}{l:List UInt8}(h:aM w w.heap.size a n c l)(ht:ah p M M' w w')(hf:0<n->∀ad,a=some ad->¬M.own p ad.block):aM w' w'.heap.size a n c l:=⟨h.hlen,h.hle,h.hmax,h.hnil,h.hbig,fun d=>let ⟨b,o,e,hl,hc⟩:=h.hat d;⟨b,o,e,Nat.lt_of_lt_of_le hl ht.size,fun i f=>(ht.cell hl (hf d _ e)).trans (hc i f)⟩⟩
structure g9 (w:World) (p:Nat) (M:ay) (x:ax) (ia:Option Addr) (ic:Nat) (ms:List af) (ba:Option Addr) (bc:Nat):Prop where
 la:fo w w.heap.size x ia ic ms ba bc
 fi:0<ms.length->∀ad,ia=some ad->¬M.own p ad.block
 fm:∀m∈ms,0<m.n->∀ad,m.a=some ad->¬M.own p ad.block
 fb:0<x.b.length->∀ad,ba=some ad->¬M.own p ad.block
variable {x : ax} {ia : Option Addr} {ic : Nat} {ms : List af} {ba : Option Addr} {bc : Nat}
theorem g9.touch(h:g9 w p M x ia ic ms ba bc)(ht:ah p M M' w w'):g9 w' p M' x ia ic ms ba bc:=by
 have q:(aK ms).length=ms.length*2:=h.la.its.sl.hlen;have g:∀k,k<w.heap.size->¬M.own p k->¬M'.own p k:=fun k g n l=>by
  rcases ht.fresh k l with i | i
  ·exact n i
  ·omega
 refine⟨⟨⟨h.la.its.sl.touch ht fun c=>h.fi (by omega),fun m d=>(h.la.its.bs m d).touch ht (h.fm m d)⟩,h.la.eq,h.la.b.touch ht h.fb⟩,fun c j e=> ?_,fun m d c j e=> ?_,fun c j e=> ?_⟩
 ·obtain⟨b,o,a,f, -⟩:=h.la.its.sl.hat (by omega);rw[e]at a;injection a with a;subst a
  exact g _ f (h.fi c _ e)
 ·obtain⟨b,o,a,f, -⟩:=(h.la.its.bs m d).hat c;rw[e]at a;injection a with a;subst a
  exact g _ f (h.fm m d c _ e)
 ·obtain⟨b,o,a,f, -⟩:=h.la.b.hat c;rw[e]at a;injection a with a;subst a
  exact g _ f (h.fb c _ e)
theorem g9.below(h:g9 w p M x ia ic ms ba bc)(hb:Below w.heap.size w w'):g9 w' p M x ia ic ms ba bc:=h.touch (.ofBelow hb)
theorem jA(w:World)(x:ax)(ia:Option Addr)(n ic:Nat)(ba:Option Addr)(bc:Nat):∃V,V=w.alloc (.cells (aF x ia n ic ba bc) 32)/\Below w.heap.size w V/\V.heap.size=w.heap.size+1/\V.heap[w.heap.size]? =some (.cells (aF x ia n ic ba bc) 32 (0,0)):=⟨_,rfl,(Below.refl _ _).alloc (Nat.le_refl _) _,by simp,heap_alloc_new w _⟩
theorem li(p:Nat)(R:aa)(M:ay)(f:Int)(x:ax)(ia:Option Addr)(n ic:Nat)(ba:Option Addr)(bc:Nat)(hn:R.out.length<=1000000000)(w:World)(h:ao w p R M):
  Calls Tryz.prog 81 #[.pointer (some ⟨p,0,none⟩), .int .i64 f, .agg (aF x ia n ic ba bc)] w fun e w'=>e= .returned (.bool (R.follows f x).2)/\∃M',ao w' p (R.follows f x).1 M'/\ah p M M' w w':=by
 obtain⟨V,hV,g,r,k⟩:=jA w x ia n ic ba bc;obtain⟨S,P,O, -⟩:=aq k;have q:=h.below g;have c2:V.cell? ⟨p,2,none⟩=some (.int .i64 R.bt):=q.c rfl;have c5:V.cell? ⟨p,6,none⟩=some (.int .i64 R.role):=q.c rfl;have d:=Hh q;have z:=Hh g;have s:=Hh hV;clear q g k hV h r;by_cases b:x.t<R.bt
 ·have B:decide (x.t<R.bt)=true:=decide_eq_true b;have o:=Hh (show R.follows f x=(R.post f ⟨4,0,0,0,x.a,false,[],[]⟩,false) by unfold aa.follows;rw[if_pos b]);clear b;go_enter Tryz.func81,Tryz.ntmps81
  go_wp2_with fail;rw[<-s.out];go_quiet (fail)
  go_wp2_with fail;refine(cO p R M f ⟨4,0,0,0,x.a,false,[],[]⟩ rfl rfl hn _ (d.out.drawn rfl)).mono ?_;rintro e N ⟨rfl,M',l,j⟩;have y:=Hh l;have v:=Hh ((ah.ofBelow z.out).trans (ah.trans (.ofBelow (below_drewN V _)) j));clear l j;go_wp2;go_ret;rw[o.out];exact⟨rfl,M',y.out,v.out⟩
 have B:decide (x.t<R.bt)=false:=decide_eq_false b;by_cases i:R.role=2
 ·have A:(R.role==2)=true:=by simpa using i
  have o:=Hh (show R.follows f x=(R,false) by unfold aa.follows;rw[if_neg b,if_pos i]);clear b i;go_enter Tryz.func81,Tryz.ntmps81
  go_wp2_with fail;rw[<-s.out];go_quiet (fail)
  go_wp2;go_ret;rw[o.out];exact⟨rfl,M,d.out.drawn rfl,(ah.ofBelow z.out).trans (.ofBelow (below_drewN V _))⟩
 have A:(R.role==2)=false:=by simpa using i
 have o:=Hh (show R.follows f x=({ R with role:=0,lead:=f,ticks:=0 },true) by unfold aa.follows;rw[if_neg b,if_neg i]);clear b i;go_enter Tryz.func81,Tryz.ntmps81
 go_wp2_with fail;rw[<-s.out];go_quiet (fail)
 have W:V.cell? ⟨p,7,none⟩=some (.int .i64 R.lead):=d.out.c rfl;have D:V.cell? ⟨p,10,none⟩=some (.int .i64 R.ticks):=d.out.c rfl;have U:=d.out.f 6;have T:=d.out.f 7;have C:=d.out.f 10;go_wp2;go_ret;rw[o.out];obtain⟨L,H⟩:=(d.out.drawn (m:=nq) rfl).setRole 0;obtain⟨J,G⟩:=L.setLead f;obtain⟨I,F⟩:=J.setTicks 0;exact⟨rfl,M,I,(ah.ofBelow z.out).trans ((ah.ofBelow (below_drewN V nq)).trans (H.trans (G.trans F)))⟩
theorem qu(p:Nat)(R:aa)(M:ay)(f:Nat)(hf:f<7)(x:ax)(ia:Option Addr)(n ic:Nat)(ba:Option Addr)(bc:Nat)(hn1:1<=R.n)(hn7:R.n<=7)(hm0:0<=R.me)(hmn:R.me<R.n)(hg:R.line.Good)(hv:∀x∈R.votes,0<=x/\x<=1)(hnw:R.news.length<=999990000)(ho:R.out.length<=999999000)(w:World)(h:ao w p R M):
  Calls Tryz.prog 46 #[.pointer (some ⟨p,0,none⟩), .int .i64 f, .agg (aF x ia n ic ba bc)] w fun e w'=>e= .returned (.tuple #[])/\∃M',ao w' p (R.said f x) M'/\ah p M M' w w':=by
 obtain⟨V,hV,g,s,l⟩:=jA w x ia n ic ba bc;obtain⟨L,P,J,I,H,B, -⟩:=aq l;have q:=h.below g;have c2:V.cell? ⟨p,2,none⟩=some (.int .i64 R.bt):=q.c rfl;have S:V.cell? ⟨p,6,none⟩=some (.int .i64 R.role):=q.c rfl;have C:=Hh q;have D:=Hh g;have r:=Hh hV;have N:=Hh hg;have v:=Hh hv;clear q g l hV h s hg hv L J I H;have no:∀m,(¬(R.role=1/\x.t=R.bt/\x.y=true))->∃M',ao (V.drewN m) p (R.said f x) M'/\ah p M M' w (V.drewN m):=fun m d=>⟨M,by unfold aa.said;rw[if_neg d];exact C.out.drawn rfl,(ah.ofBelow D.out).trans (.ofBelow (below_drewN V m))⟩
 have i:=Hh no;clear no;by_cases a:¬R.role=1
 ·have G:(R.role==1)=false:=by simpa using a
  have j:=Hh (show ¬(R.role=1/\x.t=R.bt/\x.y=true) from fun d=>a d.1);clear a;go_enter Tryz.func46,Tryz.ntmps46
  go_wp2_with fail;rw[<-r.out];go_quiet (fail)
  go_wp2;go_end0;exact⟨rfl,i.out _ j.out⟩
 have a:R.role=1:=Decidable.not_not.1 a;have G:(R.role==1)=true:=by simpa using a
 by_cases b:¬x.t=R.bt
 ·have F:(x.t==R.bt)=false:=by simpa using b
  have j:=Hh (show ¬(R.role=1/\x.t=R.bt/\x.y=true) from fun d=>b d.2.1);clear a b;go_enter Tryz.func46,Tryz.ntmps46
  go_wp2_with fail;rw[<-r.out];go_quiet (fail)
  go_wp2;go_end0;exact⟨rfl,i.out _ j.out⟩
 have b:x.t=R.bt:=Decidable.not_not.1 b;have F:(x.t==R.bt)=true:=by simpa using b
 cases hy:x.y with
 | false=>
  rw[hy]at B;have j:=Hh (show ¬(R.role=1/\x.t=R.bt/\x.y=true) from fun d=>by rw[hy]at d;cases d.2.2);clear a b hy;go_enter Tryz.func46,Tryz.ntmps46
  go_wp2_with fail;rw[<-r.out];go_quiet (fail)
  go_wp2;go_end0;exact⟨rfl,i.out _ j.out⟩
 | true=>
  rw[hy]at B;have j:=Hh (show R.said f x=R.count f by unfold aa.said;rw[if_pos ⟨a,b,hy⟩]);clear a b hy;go_enter Tryz.func46,Tryz.ntmps46
  go_wp2_with fail;rw[<-r.out];go_quiet (fail)
  go_wp2_with fail;refine(oK p R M f hf hn1 hn7 hm0 hmn N.out v.out hnw ho _ (C.out.drawn rfl)).mono ?_;rintro e O ⟨rfl,M',o,k⟩;have A:=Hh o;have z:=Hh ((ah.ofBelow D.out).trans (ah.trans (.ofBelow (below_drewN V _)) k));clear o k;go_wp2;go_end0;rw[j.out];exact⟨rfl,M',A.out,z.out⟩
end
section
theorem xk:(Tryz.prog.info? 80).map (·.size)=some 2:=by kernel_rfl
theorem zd{G:World->Nat->Prop}{P:Prop}(F:World->Nat->Prop)(main:(∀U n,F U n->G U n)->P)(key:∀U n,F U n->G U n):P:=main key
structure yZ (p g:Nat) (bt bf:Int) (x:ax) (W:World):Prop where
 c2:W.cell? ⟨p,2,none⟩=some (.int .i64 bt)
 c3:W.cell? ⟨p,3,none⟩=some (.int .i64 bf)
 l1:W.cell? ⟨g,1,none⟩=some (.int .i64 x.t)
 l2:W.cell? ⟨g,2,none⟩=some (.int .i64 x.a)
 l3:W.cell? ⟨g,3,none⟩=some (.int .i64 x.u)
theorem ao.askS{w:World}{p g:Nat}{R:aa}{M:ay}(h:ao w p R M){x:ax}{b:Option Addr}{n a:Nat}{ba:Option Addr}{e:Nat}(d:w.heap[g]? =some (.cells (aF x b n a ba e) 32 (0,0))):yZ p g R.bt R.bf x w:=
 let ⟨_,l1,l2,l3,_⟩:=aq d
 ⟨h.c rfl,h.c rfl,l1,l2,l3⟩
structure xE (p g:Nat) (R:aa) (M:ay) (bx:Array Value) (B:Nat) (W U:World) (n:Nat):Prop where
 rf:ao U p R M
 lt:U.heap[g]? =some (.cells bx 32 (0,0))
 bb:U.heap[n]? =some (.cells #[.int .i64 0, .int .i64 0] 80 (0,0))
 bel:Below B W U
 le:B<=n
theorem oL(p:Nat)(R:aa)(M:ay)(f:Int)(x:ax)(ia:Option Addr)(n ic:Nat)(ba:Option Addr)(bc:Nat)(hb0:0<=R.bt)(hb1:R.bt<=1099511627776)(hf0: -1<=R.bf)(hf1:R.bf<=6)(hg:R.line.Good)(hnw:R.news.length<=1000000000)(ho:R.out.length<=1000000000)(w:World)(h:ao w p R M):
  Calls Tryz.prog 45 #[.pointer (some ⟨p,0,none⟩), .int .i64 f, .agg (aF x ia n ic ba bc)] w fun e w'=>e= .returned (.tuple #[])/\∃M',ao w' p (R.asked f x) M'/\ah p M M' w w':=by
 obtain⟨V,hV,hbV,hsV,hrV⟩:=jA w x ia n ic ba bc;have hr:=h.below hbV;have c4:(w.alloc (.cells (aF x ia n ic ba bc) 32)).cell? ⟨p,4,none⟩=some (.pointer (some ⟨M.lb,0,none⟩)):=by rw[<-hV];exact hr.c rfl
 obtain⟨L,hL⟩:∃L,R.line.last=L:=⟨_,rfl⟩
 obtain⟨T,hT⟩:∃T,(bk R.line L).1=T:=⟨_,rfl⟩
 obtain⟨an,han⟩:∃an,ed x.a x.u L T=an:=⟨_,rfl⟩
 obtain⟨yes,J⟩:∃yes,bJ R.bt R.bf f x.t an=yes:=⟨_,rfl⟩
 obtain⟨q,hgF⟩:∃q,cW R.bt R.bf f x.t an=q:=⟨_,rfl⟩
 have hgT:=gw R.bt R.bf f x.t an;have HASK:=Hh (show R.asked f x=(if R.bt≠R.bt\/q≠R.bf then({ (if yes=true then { R with ticks:=0 } else R) with bt:=R.bt,bf:=q }:aa).noteBallot else if yes=true then { R with ticks:=0 } else R).post f ⟨2,0,0,0,0,yes,[],[]⟩ by unfold aa.asked;simp only[hL,hT,han,J,hgT,hgF])
 have HF0:=Hh (show -1<=q/\q<=6/\(yes=false->q=R.bf) by
  rw[<-hgF,<-J];unfold cW;split
  ·rename_i h9;have:=pH (ip h9);exact⟨by omega,by omega,fun h8=>by rw[h9]at h8;cases h8⟩
  ·exact⟨hf0,hf1,fun _=>rfl⟩)
 have HL:=Hh (show R.line.last=L/\(bk R.line L).1=T from⟨hL,hT⟩);have HAN:=Hh han;have HYES:=Hh J;have HGF:=Hh hgF;have HGT:=Hh hgT;have HR:=Hh hr;have HB:=Hh hbV;have HV:=Hh hV;have HG:=Hh hg;have HBX:=Hh hrV;have HNB:=Hh (h.notNew (Nat.le_refl w.heap.size));clear hr hbV hV h hg hL hT han J hgF hgT hrV;go_enter Tryz.func45,Tryz.ntmps45
 go_wp2_with fail;rw[<-HV.out];refine(kj 0 M.lb R.line HG.out M.la M.lc M.ms _ HR.out.ln).mono ?_;rintro e I ⟨rfl,m1,hm1⟩;rw[HL.out.1,HL.out.2];have HR1:=Hh (HR.out.drawn hm1);have HB1:=Hh (show Below V.heap.size V I by rw[hm1];exact below_drewN V m1);have hs1:V.heap.size<=I.heap.size:=HB1.out.size;have HBX1:=Hh ((HB1.out.block w.heap.size (by omega)).trans HBX.out);clear hm1 c4;go_wp2_with fail;refine lT (S:=yZ p w.heap.size R.bt R.bf x) ?_;intro w2 O;have HR2:=Hh (HR1.out.below O);have HBX2:=Hh ((O.block w.heap.size (by omega)).trans HBX1.out);have hs2:I.heap.size<=w2.heap.size:=O.size;have HB2:=Hh (HB1.out.trans (O.mono HB1.out.size));have i:=HR2.out.askS HBX2.out;refine hT 0 19 i ?_;refine hT 4 23 i ?_;refine hT 5 24 i ?_;refine hT 7 26 i ?_;refine hT 9 28 i ?_;refine hT 11 30 i ?_;refine hT 12 31 i ?_;refine hT 1 20 i ?_;refine hT 6 25 i ?_;refine hT 8 27 i ?_;refine hT 10 29 i ?_;refine hT 2 21 i ?_;refine hW 3 22 (.agg #[.int .i64 R.bt, .int .i64 R.bf]) i ?_;have HS0:=Hh i;have HDR:=Hh (show Below I.heap.size I w2 from O);clear i O;obtain⟨B0,hB0⟩:∃B0,B0=I.heap.size:=⟨_,rfl⟩
 have A:=Hh hB0;clear hB0;apply zd (fun U k=>xE p w.heap.size R M (aF x ia n ic ba bc) B0 I U k);intro hway;refine nU 13 18 ?_ ?_
 ·go_simp;refine(gS x.a x.u L T _).mono ?_;rintro e w3 ⟨rfl,o⟩;rw[HAN.out];have a0:=Hh (HR2.out.below o);have s:=Hh ((o.block w.heap.size (by omega)).trans HBX2.out);have H:=Hh (HDR.out.trans (o.mono HDR.out.size));have hs3:w2.heap.size<=w3.heap.size:=o.size;have hS3:=a0.out.askS s.out;refine⟨hS3,?_⟩;clear o;refine nU 14 18 ?_ ?_
  ·clear hS3;go_simp;refine(eZ R.bt R.bf f x.t an _).mono ?_;rintro e N ⟨rfl,b⟩;rw[HGT.out,HGF.out,HYES.out];have z:=Hh (a0.out.below b);have l:=Hh ((b.block w.heap.size (by omega)).trans s.out);have C:=Hh (H.out.trans (b.mono H.out.size));have hs4:w3.heap.size<=N.heap.size:=b.size;have d:=z.out.askS l.out;refine⟨d,?_⟩;clear b;refine hT 15 18 d ?_;refine hV 16 34 (.agg #[.int .i64 R.bt, .int .i64 q]) d ?_;refine hV 17 35 (.bool yes) d ?_;clear d;refine bp 18 ?_;go_simp;obtain⟨U,hU⟩:∃U,U=N.alloc (.cells #[.int .i64 0, .int .i64 0] 80):=⟨_,rfl⟩
   rw[<-hU];have g:Below N.heap.size N U:=by rw[hU];exact(Below.refl _ _).alloc (Nat.le_refl _) _
   have r:xE p w.heap.size R M (aF x ia n ic ba bc) B0 I U N.heap.size:=⟨z.out.below g,(g.block w.heap.size (by omega)).trans l.out,by rw[hU];exact heap_alloc_new N _,by rw[A.out];exact C.out.trans (g.mono C.out.size),by rw[A.out];omega⟩
   refine⟨r.rf.askS r.lt,?_⟩;clear g hU;generalize N.heap.size=k at r ⊢;exact hway U k r
  ·clear hS3;go_simp;obtain⟨U3,hU3⟩:∃U3,U3=w3.alloc (.cells #[.int .i64 0, .int .i64 0] 80):=⟨_,rfl⟩
   rw[<-hU3];have g:Below w3.heap.size w3 U3:=by rw[hU3];exact(Below.refl _ _).alloc (Nat.le_refl _) _
   have F:U3.heap[w3.heap.size]? =some (.cells #[.int .i64 0, .int .i64 0] 80 (0,0)):=by rw[hU3];exact heap_alloc_new w3 _
   have hlt:=(Array.getElem?_eq_some_iff.1 F).1;have B:=Hh F;have z:=Hh (a0.out.below g);have l:=Hh ((g.block w.heap.size (by omega)).trans s.out);have C:=Hh (H.out.trans (g.mono H.out.size));have hs4:w3.heap.size<=U3.heap.size:=g.size;clear g hU3 F;refine⟨z.out.askS l.out,?_⟩;refine bp 14 ?_;go_simp;refine(eZ R.bt R.bf f x.t an _).mono ?_;rintro e N ⟨rfl,b⟩;rw[HGT.out,HGF.out,HYES.out];have r:xE p w.heap.size R M (aF x ia n ic ba bc) B0 I N w3.heap.size:=⟨z.out.below b,(b.block w.heap.size (by omega)).trans l.out,(b.block _ hlt).trans B.out,by rw[A.out];exact C.out.trans (b.mono C.out.size),by rw[A.out];omega⟩
   have d:=r.rf.askS r.lt;refine⟨d,?_⟩;clear b;refine hT 15 18 d ?_;refine hV 16 34 (.agg #[.int .i64 R.bt, .int .i64 q]) d ?_;refine hV 17 35 (.bool yes) d ?_;clear d;generalize w3.heap.size=k at r ⊢;exact hway N k r
 ·go_simp;obtain⟨U2,hU2⟩:∃U2,U2=w2.alloc (.cells #[.int .i64 0, .int .i64 0] 80):=⟨_,rfl⟩
  rw[<-hU2];have g:Below w2.heap.size w2 U2:=by rw[hU2];exact(Below.refl _ _).alloc (Nat.le_refl _) _
  have F:U2.heap[w2.heap.size]? =some (.cells #[.int .i64 0, .int .i64 0] 80 (0,0)):=by rw[hU2];exact heap_alloc_new w2 _
  have hlt:=(Array.getElem?_eq_some_iff.1 F).1;have B:=Hh F;have a0:=Hh (HR2.out.below g);have s:=Hh ((g.block w.heap.size (by omega)).trans HBX2.out);have H:=Hh (HDR.out.trans (g.mono HDR.out.size));have hs3:w2.heap.size<=U2.heap.size:=g.size;clear g hU2 F;refine⟨a0.out.askS s.out,?_⟩;refine bp 13 ?_;go_simp;refine(gS x.a x.u L T _).mono ?_;rintro e w3 ⟨rfl,o⟩;rw[HAN.out];have z:=Hh (a0.out.below o);have l:=Hh ((o.block w.heap.size (by omega)).trans s.out);have C:=Hh (H.out.trans (o.mono H.out.size));have HBB3:=Hh ((o.block _ hlt).trans B.out);have hs4:U2.heap.size<=w3.heap.size:=o.size;clear o;refine⟨z.out.askS l.out,?_⟩;refine bp 14 ?_;go_simp;refine(eZ R.bt R.bf f x.t an _).mono ?_;rintro e N ⟨rfl,b⟩;rw[HGT.out,HGF.out,HYES.out];have r:xE p w.heap.size R M (aF x ia n ic ba bc) B0 I N w2.heap.size:=⟨z.out.below b,(b.block w.heap.size (by omega)).trans l.out,(b.block _ (by omega)).trans HBB3.out,by rw[A.out];exact C.out.trans (b.mono C.out.size),by rw[A.out];omega⟩
  have d:=r.rf.askS r.lt;refine⟨d,?_⟩;clear b;refine hT 15 18 d ?_;refine hV 16 34 (.agg #[.int .i64 R.bt, .int .i64 q]) d ?_;refine hV 17 35 (.bool yes) d ?_;clear d;generalize w2.heap.size=k at r ⊢;exact hway N k r
 intro U k r;have HRU:=Hh r.rf;have HBXU:=Hh r.lt;have B:=Hh r.bb;have HBU:=Hh (show Below I.heap.size I U by rw[<-A.out];exact r.bel);have hkB:I.heap.size<=k:=by rw[<-A.out];exact r.le
 clear r;have hkU:k<U.heap.size:=(Array.getElem?_eq_some_iff.1 B.out).1;refine bp 19 ?_;refine wp_store_row 80 (.tmp 8) (.tmp 34) rfl k #[.int .i64 R.bt, .int .i64 q] rfl rfl 80 _ B.out xk rfl (by simp[Value.oneCell']) ?_;obtain⟨X,hX⟩:∃X,X=U.setRow k #[.int .i64 R.bt, .int .i64 q]:=⟨_,rfl⟩
 rw[<-hX];have hoX:∀j,j≠k->X.heap[j]? =U.heap[j]? :=fun j hj=>by rw[hX];exact setRow_other _ _ _ _ hj
 have hsX:X.heap.size=U.heap.size:=by rw[hX];simp
 have hbX:Below I.heap.size U X:=by rw[hX];exact ex U _ hkB
 have hrX:=setRow_heap U k _ #[.int .i64 R.bt, .int .i64 q] 80 _ B.out;rw[<-hX]at hrX;have hnot:¬M.own p k:=HR1.out.notNew hkB;have G:=Hh (HRU.out.far hnot B.out (by decide) (fun m hm e=>by have:=(HR1.out.po.m m hm).block e;omega) hoX (by omega));have HBXX:=Hh ((hoX w.heap.size (by omega)).trans HBXU.out);have HROWX:=Hh hrX;have HTX:=Hh (show ah p M M w X from(ah.ofBelow HB.out).trans ((ah.ofBelow HB1.out).trans (.ofBelow (HBU.out.trans hbX))));have hS:=G.out.askS HBXX.out;refine⟨hS,?_⟩;refine hT 20 9 hS ?_;refine dc ?_;have hkX:k<X.heap.size:=by omega
 clear hS hX hoX hsX hbX hrX;have b0:=cell_of_row X k 0 _ _ _ HROWX.out;have b1:=cell_of_row X k 1 _ _ _ HROWX.out;have c2:X.cell? ⟨p,2,none⟩=some (.int .i64 R.bt):=G.out.c rfl;have c3:X.cell? ⟨p,3,none⟩=some (.int .i64 R.bf):=G.out.c rfl;cases yes with
 | false=>
  have D:q=R.bf:=HF0.out.2.2 rfl;subst D;go_wp2_with fail;go_quiet (fail)
  clear b0 b1 c2 c3;go_wp2_with fail;refine(cO p R M f ⟨2,0,0,0,0,false,[],[]⟩ rfl rfl ho _ (G.out.drawn rfl)).mono ?_;rintro e w9 ⟨rfl,M9,y,v⟩;have W:=Hh y;have HT9:=Hh (HTX.out.trans (ah.trans (.ofBelow (below_drewN X _)) v));clear y v;go_wp2;go_end0;refine⟨rfl,M9,?_,HT9.out⟩;rw[HASK.out,if_neg (by simp)];exact W.out
 | true=>
  have c10:X.cell? ⟨p,10,none⟩=some (.int .i64 R.ticks):=G.out.c rfl;have f10:=G.out.f 10;obtain⟨Y,hY⟩:∃Y,Y=X.setCell ⟨p,10,none⟩ (.int .i64 0):=⟨_,rfl⟩
  obtain⟨a1,e1⟩:=G.out.setTicks 0;rw[show iz 0= .int .i64 0 from rfl,<-hY]at a1 e1;have P:=Hh a1;have HTY:=Hh (HTX.out.trans e1);have b0':Y.cell? ⟨k,0,none⟩=some (.int .i64 R.bt):=(e1.cell (by omega) hnot).trans b0;have b1':Y.cell? ⟨k,1,none⟩=some (.int .i64 q):=(e1.cell (by omega) hnot).trans b1;have c2':Y.cell? ⟨p,2,none⟩=some (.int .i64 R.bt):=P.out.c rfl;have c3':Y.cell? ⟨p,3,none⟩=some (.int .i64 R.bf):=P.out.c rfl;have f2:=P.out.f 2;have f3:=P.out.f 3;have HY:=Hh hY;clear b0 b1 c2 c3 a1 e1 hY;by_cases D:q=R.bf
  ·subst D;go_wp2_with fail;rw[<-HY.out];clear c10 f10;go_quiet (fail)
   clear b0' b1' c2' c3';go_wp2_with fail;refine(cO p { R with ticks:=0 } M f ⟨2,0,0,0,0,true,[],[]⟩ rfl rfl ho _ (P.out.drawn rfl)).mono ?_;rintro e w9 ⟨rfl,M9,y,v⟩;have W:=Hh y;have HT9:=Hh (HTY.out.trans (ah.trans (.ofBelow (below_drewN Y _)) v));clear y v;go_wp2;go_end0;refine⟨rfl,M9,?_,HT9.out⟩;rw[HASK.out,if_neg (by simp)];exact W.out
  ·have t1:(q==R.bf)=false:=by simpa using D
   have t2:(q !=R.bf)=true:=by simpa using D
   have HNE:=Hh D;clear D;go_wp2_with fail;rw[<-HY.out];clear c10 f10;go_quiet (fail)
   go_wp2_with fail;have HD:=P.out.drawn (m:=nq) rfl;obtain⟨a2,e2⟩:=HD.setBallot R.bt q;obtain⟨Z,hZ⟩:∃Z,Z=((Y.drewN nq).setCell ⟨p,2,none⟩ (iz R.bt)).setCell ⟨p,3,none⟩ (iz q):=⟨_,rfl⟩
   rw[<-hZ]at a2 e2
   (refine(show Calls Tryz.prog 44 #[.pointer (some ⟨p,0,none⟩)] (((Y.drewN nq).setCell ⟨p,2,none⟩ (iz R.bt)).setCell ⟨p,3,none⟩ (iz q)) _ from ?_))
   rw[<-hZ];have HTZ:=Hh (HTY.out.trans ((ah.ofBelow (below_drewN Y nq)).trans e2));clear b0' b1' c2' c3' f2 f3 hZ e2 HD;obtain⟨R2,hR2⟩:∃R2:aa,R2={ R with ticks:=0,bt:=R.bt,bf:=q }:=⟨_,rfl⟩
   have HRZ:=Hh (show ao Z p R2 M by rw[hR2];exact a2);have HR2:=Hh hR2;have a3:=Hh (show R2.bt=R.bt/\R2.bf=q/\R2.news=R.news/\R2.out=R.out by rw[hR2];exact⟨rfl,rfl,rfl,rfl⟩);clear a2 hR2;refine(fI p R2 M (by rw[a3.out.1];exact hb0) (by rw[a3.out.1];exact hb1) (by rw[a3.out.2.1];exact HF0.out.1) (by rw[a3.out.2.1];exact HF0.out.2.1) (by rw[a3.out.2.2.1];exact hnw) _ HRZ.out).mono ?_;rintro e w8 ⟨rfl,M8,hr8,ht8⟩;have HR8:=Hh hr8;have HT8:=Hh (HTZ.out.trans ht8);clear hr8 ht8;go_wp2_with fail;refine(cO p R2.noteBallot M8 f ⟨2,0,0,0,0,true,[],[]⟩ rfl rfl (by show R2.out.length<=_;rw[a3.out.2.2.2];exact ho) _ HR8.out).mono ?_;rintro e w9 ⟨rfl,M9,y,v⟩;have W:=Hh y;have HT9:=Hh (HT8.out.trans v);clear y v;go_wp2;go_end0;refine⟨rfl,M9,?_,HT9.out⟩;rw[HASK.out,if_pos (.inr HNE.out)];rw[HR2.out]at W;exact W.out
end
section
structure zh (p f:Nat) (v:Int) (W:World):Prop where
 cn:W.cell? ⟨p,25+f,none⟩=some (.int .i64 v)
structure uP (p g f:Nat) (A:Int) (x:ax) (W:World):Prop where
 l2:W.cell? ⟨g,2,none⟩=some (.int .i64 x.a)
 l4:W.cell? ⟨g,4,none⟩=some (.int .i64 x.o)
 cm:W.cell? ⟨p,18+f,none⟩=some (.int .i64 A)
theorem uP.of{p g f:Nat}{A:Int}{x:ax}{b:Option Addr}{n a:Nat}{ba:Option Addr}{d:Nat}{w:World}(c:w.heap[g]? =some (.cells (aF x b n a ba d) 32 (0,0)))(hc:w.cell? ⟨p,18+f,none⟩=some (.int .i64 A)):uP p g f A x w:=
 let ⟨_,_,l2,_,l4,_⟩:=aq c
 ⟨l2,l4,hc⟩
structure fP (g:Nat) (x:ax) (W:World):Prop where
 l2:W.cell? ⟨g,2,none⟩=some (.int .i64 x.a)
 l4:W.cell? ⟨g,4,none⟩=some (.int .i64 x.o)
 l5:W.cell? ⟨g,5,none⟩=some (.bool x.y)
theorem fP.of{g:Nat}{x:ax}{b:Option Addr}{n a:Nat}{ba:Option Addr}{d:Nat}{w:World}(c:w.heap[g]? =some (.cells (aF x b n a ba d) 32 (0,0))):fP g x w:=
 let ⟨_,_,l2,_,l4,l5,_⟩:=aq c
 ⟨l2,l4,l5⟩
theorem sY(p:Nat)(R:aa)(M:ay)(f:Nat)(x:ax)(ia:Option Addr)(n ic:Nat)(ba:Option Addr)(bc:Nat)(hok:R.Ok)(hfn:(f:Int)<R.n)(hr:aO x=true)(ho:R.out.length<=1000000000)(w:World)(h:ao w p R M):
  Calls Tryz.prog 48 #[.pointer (some ⟨p,0,none⟩), .int .i64 f, .agg (aF x ia n ic ba bc)] w fun e w'=>e= .returned (.tuple #[])/\∃M',ao w' p (R.got f x) M'/\ah p M M' w w':=by
 obtain⟨-, -,⟨ha0,ha1⟩, -,⟨ho0,ho1⟩, -⟩:=aH hr;have k:f<7:=by have:=hok.n7;omega
 have hk0:(0:Int)<=(f:Int):=by omega
 have hk1:(f:Int)<7:=by omega
 obtain⟨V,hV,hbV,hsV,hrV⟩:=jA w x ia n ic ba bc;have hrf:=h.below hbV;have l1:=(aq hrV).2.1;have c2:V.cell? ⟨p,2,none⟩=some (.int .i64 R.bt):=hrf.c rfl;have c6:V.cell? ⟨p,6,none⟩=some (.int .i64 R.role):=hrf.c rfl;obtain⟨A,hA⟩:∃A,R.mat.getD f 0=A:=⟨_,rfl⟩
 obtain⟨N,hN⟩:∃N,R.nxt.getD f 0=N:=⟨_,rfl⟩
 have hAb:0<=A/\A<=1099511627776:=by rw[<-hA];exact eL hok.mss (by rw[hok.m7];exact k)
 have hNb:0<=N/\N<=1099511627777:=by rw[<-hN];exact eL hok.xs (by rw[hok.x7];exact k)
 have HR:=Hh hrf;have HB:=Hh hbV;have HV:=Hh hV;have HBX:=Hh hrV;have HNW:=Hh (h.notNew (Nat.le_refl w.heap.size));have r:=Hh hok;have HA:=Hh hA;have HN:=Hh hN;have HGOT:=Hh (show R.got f x=if R.role≠2\/x.t≠R.bt then R
  else if x.y=true/\x.a<=R.line.last then
   if (({ R with mat:=R.mat.set f (max A x.a),nxt:=R.nxt.set f (max N (x.a+1)) }:aa).look).nxt.getD f 0<=(({ R with mat:=R.mat.set f (max A x.a),nxt:=R.nxt.set f (max N (x.a+1)) }:aa).look).line.last then(({ R with mat:=R.mat.set f (max A x.a),nxt:=R.nxt.set f (max N (x.a+1)) }:aa).look).send f else(({ R with mat:=R.mat.set f (max A x.a),nxt:=R.nxt.set f (max N (x.a+1)) }:aa).look)
  else if x.y=false/\x.o=N-1/\A<x.o then({ R with nxt:=R.nxt.set f (max (A+1) (min (x.a+1) x.o)) }:aa).send f
  else R by unfold aa.got;simp only[Int.toNat_natCast,hA,hN])
 clear hrf hbV hV hrV h hok hA hN;by_cases h1:¬R.role=2
 ·have t1:(R.role==2)=false:=by simpa using h1
  have t1n:(R.role !=2)=true:=by simpa using h1
  have Z:=Hh (show R.got f x=R by rw[HGOT.out,if_pos (.inl h1)]);clear h1;go_enter Tryz.func48,Tryz.ntmps48
  go_wp2_with fail;rw[<-HV.out];go_quiet (fail)
  go_wp2;refine bodyPost_ret (results_none rfl _ _ _) rfl ?_;exact⟨rfl,M,by rw[Z.out];exact HR.out.drawn rfl,(ah.ofBelow HB.out).trans (.ofBelow (below_drewN V _))⟩
 have h1:R.role=2:=Decidable.not_not.1 h1;have t1:(R.role==2)=true:=by simpa using h1
 have t1n:(R.role !=2)=false:=by simp[h1]
 by_cases h2:¬x.t=R.bt
 ·have t2:(x.t==R.bt)=false:=by simpa using h2
  have t2n:(x.t !=R.bt)=true:=by simpa using h2
  have Z:=Hh (show R.got f x=R by rw[HGOT.out,if_pos (.inr h2)]);clear h1 h2;go_enter Tryz.func48,Tryz.ntmps48
  go_wp2_with fail;rw[<-HV.out];go_quiet (fail)
  go_wp2;refine bodyPost_ret (results_none rfl _ _ _) rfl ?_;exact⟨rfl,M,by rw[Z.out];exact HR.out.drawn rfl,(ah.ofBelow HB.out).trans (.ofBelow (below_drewN V _))⟩
 have h2:x.t=R.bt:=Decidable.not_not.1 h2;have t2:(x.t==R.bt)=true:=by simpa using h2
 have t2n:(x.t !=R.bt)=false:=by simp[h2]
 have HG1:=Hh (HGOT.out.trans (if_neg (show ¬(R.role≠2\/x.t≠R.bt) from fun B=>B.elim (fun h8=>h8 h1) (fun h8=>h8 h2))));have hb1:1<=R.bt:=r.out.rb (by omega);clear h1 h2;obtain⟨L,hL⟩:∃L,R.line.last=L:=⟨_,rfl⟩
 have hLb:=bP r.out.line;rw[hL]at hLb;have HL:=Hh hL;clear hL;cases hy:x.y with
 | true=>
  have HY:=Hh hy;clear hy;by_cases h3:x.a<=L
  ·have t3:decide (x.a<=L)=true:=decide_eq_true h3;go_enter Tryz.func48,Tryz.ntmps48
   go_wp2_with fail;rw[<-HV.out];go_quiet (fail)
   go_wp2_with fail;obtain⟨O,l⟩:∃O,O=V.drewN nq:=⟨_,rfl⟩
   rw[<-l];have HR1:=Hh (HR.out.drawn l);have j:=Hh (show Below V.heap.size V O by rw[l];exact below_drewN V nq);have H:=Hh ((j.out.block w.heap.size (by omega)).trans HBX.out);clear l l1 c2 c6;refine lT (S:=fP w.heap.size x) ?_;intro X b;have z:=Hh (HR1.out.below b);have hs2:=b.size;have s:=Hh ((b.block w.heap.size (by have:=j.out.size;omega)).trans H.out);have g:fP w.heap.size x X:=fP.of s.out;refine hW 0 22 (.pointer (some ⟨w.heap.size,5,none⟩)) g ?_;refine aG 1 23 (v:= .bool true) rfl rfl (by kernel_rfl) (by kernel_rfl) (by kernel_rfl) (fun _ _ _ h=>h) g (.inl ⟨by rfl,by intro w' hS;obtain⟨s1,s2,s3⟩:=hS;rw[HY.out]at s3;go_simp;(try (all_goals rfl))⟩) ?_;simp only[List.set_cons_zero,List.set_cons_succ];refine hT 2 24 g ?_;refine hT 3 25 g ?_;refine hT 5 27 g ?_;refine hT 4 26 g ?_;clear g;refine bp 6 ?_;go_simp;refine(gn r.out.line z.out).mono ?_;rintro e V3 ⟨rfl,m3,a0⟩;rw[HL.out];have J:=Hh (show Below O.heap.size O V3 from b.trans (by rw[a0];exact(below_drewN X m3).mono hs2));have HR3:=Hh (z.out.drawn a0);have G:=Hh ((J.out.block w.heap.size (by have:=j.out.size;omega)).trans H.out);have D:fP w.heap.size x V3:=fP.of G.out;refine⟨D,?_⟩;clear a0 b;refine hV 7 29 (.bool true) D ?_;refine hT 8 30 D ?_;refine hT 9 21 D ?_;refine dc ?_;clear D;go_wp2_with fail;refine lT (S:=fP w.heap.size x) ?_;intro V4 b;have F:=Hh (HR3.out.below b);have hs3:O.heap.size<=V3.heap.size:=J.out.size;have hsz1:V.heap.size<=O.heap.size:=j.out.size;have Y:=Hh ((b.block w.heap.size (by omega)).trans G.out);have d:fP w.heap.size x V4:=fP.of Y.out;refine hT 0 31 d ?_;refine hT 1 32 d ?_;refine hT 2 33 d ?_;refine hT 3 34 d ?_;refine hT 8 39 d ?_;refine hT 4 35 d ?_;refine hT 9 40 d ?_;refine hT 11 42 d ?_;refine hT 5 36 d ?_;refine hT 12 43 d ?_;refine hT 6 37 d ?_;have p2:V4.cell? ⟨p,18+f,none⟩=some (.int .i64 A):=by rw[<-HA.out];exact F.out.c (dV F.out.sv k)
   have f2:=F.out.f (18+f);have a1:=Hh d;clear d;refine bp 7 ?_;go_simp;refine⟨a1.out,?_⟩;refine bp 10 ?_;go_simp;refine⟨a1.out,?_⟩;have d:=a1.out;refine hT 13 44 d ?_;clear d;refine bp 14 ?_;refine aj 3 (.tmp 44) (.tmp 41) rfl p (18+f) (iz (max A x.a)) _ rfl rfl rfl (by kernel_rfl) p2 f2 ?_;obtain⟨V5,hV5⟩:∃V5,V5=V4.setCell ⟨p,18+f,none⟩ (iz (max A x.a)):=⟨_,rfl⟩
   obtain⟨a5,b5⟩:=F.out.setMat k (max A x.a);rw[<-hV5]at a5 b5 ⊢;have hs4:=b.size;have HR5:=Hh a5;have HT5:=Hh ((((ah.ofBelow HB.out).trans (.ofBelow j.out)).trans (.ofBelow (J.out.trans (b.mono hs3)))).trans b5);have hsz5:=b5.size;have HBX5:=Hh ((b5.block w.heap.size (by omega) HNW.out).trans Y.out);clear hV5 a5 b5 p2 f2 b;refine⟨fP.of HBX5.out,dc ?_⟩;have w1:IntKind.i64.wrap (x.a+1)=x.a+1:=IntWalk.i64_in _ (by omega);obtain⟨R5,hR5⟩:∃R5:aa,R5={ R with mat:=R.mat.set f (max A x.a) }:=⟨_,rfl⟩
   have HN5:=Hh (show R5.nxt=R.nxt by rw[hR5]);rw[<-hR5]at HR5;have HRD:=Hh hR5;clear hR5;go_wp2_with fail;refine lT (S:=fP w.heap.size x) ?_;intro V6 b;have HR6:=Hh (HR5.out.below b);have HBX6:=Hh ((b.block w.heap.size (by omega)).trans HBX5.out);have i:fP w.heap.size x V6:=fP.of HBX6.out;refine hT 0 45 i ?_;refine hT 1 46 i ?_;refine hT 2 47 i ?_;refine hT 3 48 i ?_;refine hT 8 53 i ?_;refine hT 4 49 i ?_;refine hT 9 54 i ?_;refine hT 12 57 i ?_;refine hT 5 50 i ?_;refine hW 10 55 (.int .i64 (x.a+1)) i ?_;refine hT 13 58 i ?_;refine hT 6 51 i ?_;have p2:V6.cell? ⟨p,25+f,none⟩=some (.int .i64 N):=by rw[<-HN.out,<-HN5.out];exact HR6.out.c (dU HR6.out.sv k)
   have f2:=HR6.out.f (25+f);have HS6:=Hh i;clear i;refine bp 7 ?_;go_simp;refine⟨HS6.out,?_⟩;refine bp 11 ?_;go_simp;refine⟨HS6.out,?_⟩;have i:=HS6.out;refine hT 14 59 i ?_;clear i;refine bp 15 ?_;refine aj 3 (.tmp 59) (.tmp 56) rfl p (25+f) (iz (max N (x.a+1))) _ rfl rfl rfl (by kernel_rfl) p2 f2 ?_;obtain⟨V7,hV7⟩:∃V7,V7=V6.setCell ⟨p,25+f,none⟩ (iz (max N (x.a+1))):=⟨_,rfl⟩
   obtain⟨a7,b7⟩:=HR6.out.setNxt k (max N (x.a+1));rw[<-hV7]at a7 b7 ⊢;obtain⟨C,I⟩:∃C:aa,C={ R with mat:=R.mat.set f (max A x.a),nxt:=R.nxt.set f (max N (x.a+1)) }:=⟨_,rfl⟩
   have HR7:=Hh (show ao V7 p C M by rw[I];rw[HRD.out]at a7;exact a7);have hs6:=b.size;have HT7:=Hh ((HT5.out.trans (.ofBelow b)).trans b7);have HBX7:=Hh ((b7.block w.heap.size (by omega) HNW.out).trans HBX6.out);have HF7:=Hh (show C.n=R.n/\C.me=R.me/\C.line=R.line/\C.out=R.out/\C.bt=R.bt by rw[I];exact⟨rfl,rfl,rfl,rfl,rfl⟩);have q:=Hh (show C.Ok by rw[I];exact r.out.matched (by simp[r.out.m7]) (by simp[r.out.x7]) (cF r.out.mss (by omega)) (cF r.out.xs (by omega)));have HG2:=Hh (show R.got f x=if C.look.nxt.getD f 0<=C.look.line.last then C.look.send f else C.look by rw[HG1.out,if_pos ⟨HY.out,by rw[HL.out];exact h3⟩,I]);clear hV7 a7 b7 p2 f2 b I;refine⟨fP.of HBX7.out,dc ?_⟩;go_wp2_with fail;refine(mQ p C M q.out.n1 q.out.n7 q.out.me0 q.out.men q.out.line _ HR7.out).mono ?_;rintro e V8 ⟨rfl,M8,hr8,ht8⟩;obtain⟨R8,hR8⟩:∃R8,R8=C.look:=⟨_,rfl⟩
   rw[<-hR8]at hr8;obtain⟨m9,c9,he9, -⟩:=ch C;rw[<-hR8]at HG2;have HF8:=Hh (show R8.nxt=C.nxt/\R8.line=R.line/\R8.out=R.out by rw[hR8,he9];exact⟨rfl,HF7.out.2.2.1,HF7.out.2.2.2.1⟩);have HOK8:=Hh (show R8.Ok by rw[hR8];exact iF q.out (by rw[HF7.out.2.2.2.2];exact hb1));obtain⟨N8,hN8⟩:∃N8,R8.nxt.getD f 0=N8:=⟨_,rfl⟩
   have HN8:=Hh hN8;have HR8:=Hh hr8;have HT8:=Hh (HT7.out.trans ht8);clear hr8 ht8 hR8 he9 hN8;go_wp2_with fail;refine lT (S:=zh p f N8) ?_;intro V9 b;have HR9:=Hh (HR8.out.below b);have U:zh p f N8 V9:=⟨by rw[<-HN8.out];exact HR9.out.c (dU HR9.out.sv k)⟩
   refine hT 0 62 U ?_;refine hT 1 63 U ?_;refine hT 6 68 U ?_;refine hT 2 64 U ?_;refine hT 3 65 U ?_;refine hT 4 66 U ?_;refine hT 5 67 U ?_;clear U;refine bp 7 ?_;go_simp;refine(gn HOK8.out.line HR9.out).mono ?_;rintro e V10 ⟨rfl,m10,hm10⟩;rw[HF8.out.2.1,HL.out];have a2:=Hh (HR9.out.drawn hm10);have HT10:=Hh (HT8.out.trans ((ah.ofBelow b).trans (.ofBelow (show Below V9.heap.size V9 V10 by rw[hm10];exact below_drewN V9 m10))));have W:zh p f N8 V10:=⟨by rw[<-HN8.out];exact a2.out.c (dU a2.out.sv k)⟩
   refine⟨W,?_⟩;clear hm10 b;by_cases B:N8<=L
   ·have t9:decide (N8<=L)=true:=decide_eq_true B;refine hT 8 70 W ?_;refine dc ?_;clear W;have Z:=Hh (show R.got f x=R8.send f by rw[HG2.out,HN8.out,HF8.out.2.1,HL.out,if_pos B]);clear B;go_wp2_with fail;refine(mO p R8 M8 f k HOK8.out.line HOK8.out.xs (by rw[HF8.out.2.2];exact ho) _ a2.out).mono ?_;rintro e V11 ⟨rfl,M11,T,P⟩;have HR11:=Hh T;have HT11:=Hh (HT10.out.trans P);clear T P;go_wp2;go_end0;exact⟨rfl,M11,by rw[Z.out];exact HR11.out,HT11.out⟩
   ·have t9:decide (N8<=L)=false:=decide_eq_false B;refine hT 8 70 W ?_;refine dc ?_;clear W;have Z:=Hh (show R.got f x=R8 by rw[HG2.out,HN8.out,HF8.out.2.1,HL.out,if_neg B]);clear B;go_wp2;go_end0;exact⟨rfl,M8,by rw[Z.out];exact a2.out,HT10.out⟩
  ·have t3:decide (x.a<=L)=false:=decide_eq_false h3;have Z:=Hh (show R.got f x=R by rw[HG1.out,if_neg (fun B=>h3 (by rw[<-HL.out];exact B.2)),if_neg (fun B=>by rw[HY.out]at B;cases B.1)]);clear h3;go_enter Tryz.func48,Tryz.ntmps48
   go_wp2_with fail;rw[<-HV.out];go_quiet (fail)
   go_wp2_with fail;obtain⟨O,l⟩:∃O,O=V.drewN nq:=⟨_,rfl⟩
   rw[<-l];have HR1:=Hh (HR.out.drawn l);have j:=Hh (show Below V.heap.size V O by rw[l];exact below_drewN V nq);have H:=Hh ((j.out.block w.heap.size (by omega)).trans HBX.out);clear l l1 c2 c6;refine lT (S:=fP w.heap.size x) ?_;intro X b;have z:=Hh (HR1.out.below b);have hs2:=b.size;have s:=Hh ((b.block w.heap.size (by have:=j.out.size;omega)).trans H.out);have g:fP w.heap.size x X:=fP.of s.out;refine hW 0 22 (.pointer (some ⟨w.heap.size,5,none⟩)) g ?_;refine aG 1 23 (v:= .bool true) rfl rfl (by kernel_rfl) (by kernel_rfl) (by kernel_rfl) (fun _ _ _ h=>h) g (.inl ⟨by rfl,by intro w' hS;obtain⟨s1,s2,s3⟩:=hS;rw[HY.out]at s3;go_simp;(try (all_goals rfl))⟩) ?_;simp only[List.set_cons_zero,List.set_cons_succ];refine hT 2 24 g ?_;refine hT 3 25 g ?_;refine hT 5 27 g ?_;refine hT 4 26 g ?_;clear g;refine bp 6 ?_;go_simp;refine(gn r.out.line z.out).mono ?_;rintro e V3 ⟨rfl,m3,a0⟩;rw[HL.out];have J:=Hh (show Below O.heap.size O V3 from b.trans (by rw[a0];exact(below_drewN X m3).mono hs2));have HR3:=Hh (z.out.drawn a0);have G:=Hh ((J.out.block w.heap.size (by have:=j.out.size;omega)).trans H.out);have D:fP w.heap.size x V3:=fP.of G.out;refine⟨D,?_⟩;clear a0 b;refine hV 7 29 (.bool false) D ?_;refine hT 8 30 D ?_;refine hT 9 21 D ?_;refine dc ?_;clear D;have l5:=(aq G.out).2.2.2.2.2.1;rw[HY.out]at l5;go_wp2_with fail;go_quiet (fail)
   go_wp2;go_end0;exact⟨rfl,M,by rw[Z.out];exact HR3.out.drawn rfl,((ah.ofBelow HB.out).trans (.ofBelow j.out)).trans ((ah.ofBelow J.out).trans (.ofBelow (below_drewN V3 _)))⟩
 | false=>
  have HY:=Hh hy;clear hy;go_enter Tryz.func48,Tryz.ntmps48
  go_wp2_with fail;rw[<-HV.out];go_quiet (fail)
  go_wp2_with fail;obtain⟨O,l⟩:∃O,O=V.drewN nq:=⟨_,rfl⟩
  rw[<-l];have HR1:=Hh (HR.out.drawn l);have j:=Hh (show Below V.heap.size V O by rw[l];exact below_drewN V nq);have H:=Hh ((j.out.block w.heap.size (by omega)).trans HBX.out);clear l l1 c2 c6;refine lT (S:=fP w.heap.size x) ?_;intro X b;have z:=Hh (HR1.out.below b);have hs2:=b.size;have s:=Hh ((b.block w.heap.size (by have:=j.out.size;omega)).trans H.out);have g:fP w.heap.size x X:=fP.of s.out;refine hW 0 22 (.pointer (some ⟨w.heap.size,5,none⟩)) g ?_;have HD2:=Hh (show Below O.heap.size O X from b);refine aG 1 23 (v:= .bool false) rfl rfl (by kernel_rfl) (by kernel_rfl) (by kernel_rfl) (fun _ _ _ h=>h) g (.inl ⟨by rfl,by intro w' hS;obtain⟨s1,s2,s3⟩:=hS;rw[HY.out]at s3;go_simp;(try (all_goals rfl))⟩) ?_;simp only[List.set_cons_zero,List.set_cons_succ];refine hT 2 24 g ?_;refine hN 3 25 g ?_;refine hN 5 27 g ?_;refine hN 4 26 g ?_;refine hN 6 28 g ?_;refine hN 7 29 g ?_;refine hT 8 30 g ?_;refine hT 9 21 g ?_;refine dc ?_;clear g b;have l5:=(aq s.out).2.2.2.2.2.1;have l4:=(aq s.out).2.2.2.2.1;have l2:=(aq s.out).2.2.1;rw[HY.out]at l5;have cn:X.cell? ⟨p,25+f,none⟩=some (.int .i64 N):=by rw[<-HN.out];exact z.out.c (dU z.out.sv k)
  have cm:X.cell? ⟨p,18+f,none⟩=some (.int .i64 A):=by rw[<-HA.out];exact z.out.c (dV z.out.sv k)
  have w2:IntKind.i64.wrap (N-1)=N-1:=IntWalk.i64_in _ (by omega);by_cases h4:¬x.o=N-1
  ·have t4:(x.o==N-1)=false:=by simpa using h4
   have Z:=Hh (show R.got f x=R by rw[HG1.out,if_neg (fun B=>by rw[HY.out]at B;cases B.1),if_neg (fun B=>h4 B.2.1)]);clear h4;go_wp2_with fail;go_quiet (fail)
   go_wp2;go_end0;exact⟨rfl,M,by rw[Z.out];exact z.out.drawn rfl,((ah.ofBelow HB.out).trans (.ofBelow j.out)).trans ((ah.ofBelow HD2.out).trans (.ofBelow (below_drewN X _)))⟩
  have h4:x.o=N-1:=Decidable.not_not.1 h4;have t4:(x.o==N-1)=true:=by simpa using h4
  by_cases h5:¬A<x.o
  ·have t5:decide (A<x.o)=false:=decide_eq_false h5;have Z:=Hh (show R.got f x=R by rw[HG1.out,if_neg (fun B=>by rw[HY.out]at B;cases B.1),if_neg (fun B=>h5 B.2.2)]);clear h4 h5;go_wp2_with fail;go_quiet (fail)
   go_wp2;go_end0;exact⟨rfl,M,by rw[Z.out];exact z.out.drawn rfl,((ah.ofBelow HB.out).trans (.ofBelow j.out)).trans ((ah.ofBelow HD2.out).trans (.ofBelow (below_drewN X _)))⟩
  have h5:A<x.o:=Decidable.not_not.1 h5;have t5:decide (A<x.o)=true:=decide_eq_true h5;have Z:=Hh (show R.got f x=({ R with nxt:=R.nxt.set f (max (A+1) (min (x.a+1) x.o)) }:aa).send f by rw[HG1.out,if_neg (fun B=>by rw[HY.out]at B;cases B.1),if_pos ⟨HY.out,h4,h5⟩]);clear h4 h5;go_wp2_with fail;go_quiet (fail)
  go_wp2_with fail;obtain⟨V3,hV3⟩:∃V3,V3=X.drewN nq:=⟨_,rfl⟩
  rw[<-hV3];have HR3:=Hh (z.out.drawn hV3);have J:=Hh (show Below X.heap.size X V3 by rw[hV3];exact below_drewN X nq);have hsv:V.heap.size<=O.heap.size:=j.out.size;have G:=Hh ((J.out.block w.heap.size (by omega)).trans s.out);clear hV3 l5 l4 l2 cn cm w2;have w3:IntKind.i64.wrap (A+1)=A+1:=IntWalk.i64_in _ (by omega);have w4:IntKind.i64.wrap (x.a+1)=x.a+1:=IntWalk.i64_in _ (by omega);refine lT (S:=uP p w.heap.size f A x) ?_;intro V4 b;have F:=Hh (HR3.out.below b);have hs3:X.heap.size<=V3.heap.size:=J.out.size;have Y:=Hh ((b.block w.heap.size (by omega)).trans G.out);have d:uP p w.heap.size f A x V4:=uP.of Y.out (by rw[<-HA.out];exact F.out.c (dV F.out.sv k));refine hT 0 101 d ?_;refine hT 1 102 d ?_;refine hT 2 103 d ?_;refine hT 3 104 d ?_;refine hT 9 110 d ?_;refine hT 12 113 d ?_;refine hT 4 105 d ?_;refine hT 10 111 d ?_;refine hT 13 114 d ?_;refine hT 16 117 d ?_;refine hT 5 106 d ?_;refine hW 11 112 (.int .i64 (x.a+1)) d ?_;refine hT 17 118 d ?_;refine hT 6 107 d ?_;refine hT 7 108 d ?_;refine hW 8 109 (.int .i64 (A+1)) d ?_;have a1:=Hh d;clear d;refine bp 14 ?_;go_simp;refine⟨a1.out,?_⟩;refine bp 15 ?_;go_simp;refine⟨a1.out,?_⟩;have d:=a1.out;refine hT 18 119 d ?_;clear d;have p2:V4.cell? ⟨p,25+f,none⟩=some (.int .i64 N):=by rw[<-HN.out];exact F.out.c (dU F.out.sv k)
  have f2:=F.out.f (25+f);refine bp 19 ?_;refine aj 3 (.tmp 119) (.tmp 116) rfl p (25+f) (iz (max (A+1) (min (x.a+1) x.o))) _ rfl rfl rfl (by kernel_rfl) p2 f2 ?_;obtain⟨V7,hV7⟩:∃V7,V7=V4.setCell ⟨p,25+f,none⟩ (iz (max (A+1) (min (x.a+1) x.o))):=⟨_,rfl⟩
  obtain⟨a7,b7⟩:=F.out.setNxt k (max (A+1) (min (x.a+1) x.o));rw[<-hV7]at a7 b7 ⊢;obtain⟨C,I⟩:∃C:aa,C={ R with nxt:=R.nxt.set f (max (A+1) (min (x.a+1) x.o)) }:=⟨_,rfl⟩
  rw[<-I]at a7 Z;have HR7:=Hh a7;have hs4:=b.size;have HT7:=Hh ((((ah.ofBelow HB.out).trans (.ofBelow j.out)).trans ((ah.ofBelow HD2.out).trans ((ah.ofBelow J.out).trans (.ofBelow b)))).trans b7);have HBX7:=Hh ((b7.block w.heap.size (by omega) HNW.out).trans Y.out);have q:=Hh (show C.Ok by rw[I];exact r.out.matched (m:=R.mat) (x:=R.nxt.set f (max (A+1) (min (x.a+1) x.o))) r.out.m7 (by simp[r.out.x7]) r.out.mss (cF r.out.xs (by omega)));have HO7:=Hh (show C.out=R.out/\C.mat=R.mat by rw[I];exact⟨rfl,rfl⟩);clear hV7 a7 b7 p2 f2 b I;refine⟨uP.of HBX7.out (by rw[<-HA.out,<-HO7.out.2];exact HR7.out.c (dV HR7.out.sv k)),dc ?_⟩;go_wp2_with fail;refine(mO p C M f k q.out.line q.out.xs (by rw[HO7.out.1];exact ho) _ HR7.out).mono ?_;rintro e V11 ⟨rfl,M11,T,P⟩;have HR11:=Hh T;have HT11:=Hh (HT7.out.trans P);clear T P;go_wp2;go_end0;exact⟨rfl,M11,by rw[Z.out];exact HR11.out,HT11.out⟩
end
end Go.Proofs.YtogcnfhmcpkdcaaGreat
