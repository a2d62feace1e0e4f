/-
Reading functions that fill several blocks; contracts of readBallot and readHead.
-/
import Derived.Test.YtogcnfhmcpkdcaaGreatRaftM3
import Derived.Test.YtogcnfhmcpkdcaaGreatReadM
import Derived.Test.YtogcnfhmcpkdcaaGreatLineM3
set_option maxRecDepth 100000
set_option maxHeartbeats 2000000
namespace Go.Proofs.YtogcnfhmcpkdcaaGreat
open Go.RowKit
set_option linter.unusedVariables false
set_option linter.unusedSimpArgs false
structure ix {α:Type} (q:Nat) (P:Nat->Prop) (r:bO α) (w w':World) (e:Ending) (is:α->Prop):Prop where
 os:w'.os=w.os
 tape:w'.tape=w.tape
 output:w'.output=w.output
 size:w.heap.size<=w'.heap.size
 block:∀k,k<w.heap.size->k≠q->¬P k->w'.heap[k]? =w.heap[k]?
 bad:∀x,r= .err x->e=bK x
 good:∀v rest,r= .ok v rest->e= .returned (.tuple #[])/\l9 w' q rest.length/\is v
theorem kz{α:Type}(r:bO α)(hs:r.sane)(l:List UInt8)(a:Option Addr)(n c:Nat)(f:FuncId)(hf:∀args w,Sem.run Tryz.prog (callFunc f args) w= .ok (.enter f args) w)(first cap:Array Value)(P:Nat->Prop)(w:World)
 (L:∀k,P k->k<w.heap.size)(h:aM w w.heap.size a n c l)(is:World->World->α->Prop)
 (y:∀q w1,Below w.heap.size w w1->w.heap.size<q->bF w1 q l->Calls Tryz.prog f (first.push (.pointer (some ⟨q,0,none⟩))++cap) w1 fun e w'=>ix q P r w1 w' e (is w1 w')):
  Calls Tryz.prog 90 #[.slice a n c, .func (.func f) first cap] w fun e w2=>e= .returned (.int .i64 r.code)/\(w2.os=w.os/\w2.tape=w.tape/\w2.output=w.output/\w.heap.size<=w2.heap.size/\∀k,k<w.heap.size->¬P k->w2.heap[k]? =w.heap[k]?)/\
   ∀v,r= .ok v []->∃w1 w' rb,w.heap.size<=rb/\rb<w1.heap.size/\w1.heap.size<=w'.heap.size/\Below w.heap.size w w1/\is w1 w' v/\fV rb w' w2:=by
 refine(pd l a n c f hf first cap w h (fun q w1 w' x=>x=r.code/\w1.heap.size<=w'.heap.size/\(∀k,k<w1.heap.size->k≠q->¬P k->w'.heap[k]? =w1.heap[k]?)/\w'.os=w1.os/\w'.tape=w1.tape/\w'.output=w1.output/\∀v,r= .ok v []->is w1 w' v) ?_).mono ?_
 ·intro q w1 g J he;have F:=g.size;refine(y q w1 g J he).mono ?_;rintro e w' d;refine⟨d.size,fun k B z S=>d.block k z S (fun R=>by have:=L k R;omega),r.code,?_,rfl,d.size,d.block,d.os,d.tape,d.output,fun v j=>(d.good v [] j).2.2⟩;cases hR:r with
  | err x=>exact .inl ⟨d.bad x hR,hs x hR⟩
  | ok v rest=>obtain⟨B,z,_⟩:=d.good v rest hR;exact .inr ⟨B,rest,z,rfl⟩
 ·rintro e w2 ⟨q,w1,w',x,rb,rfl,g,I,H,p,o,G,⟨rfl,m,i,M,D,C,t⟩,b⟩;have O:=g.size;have A:=b.size;refine⟨rfl,⟨b.os.trans (M.trans g.os),b.tape.trans (D.trans g.tape),b.output.trans (C.trans g.output),by omega,fun k N s=> ?_⟩,fun v j=>⟨w1,w',rb,p,o,m,g,t v j,b⟩⟩;exact(b.block k (by omega) (by omega)).trans ((i k (by omega) (by omega) s).trans (g.block k N))
def dX(l:List UInt8):bO (Nat×Nat):=(ak 1099511627776 l).bind fun t r=>(ak 7 r).bind fun f a=> .ok (t,f) a
theorem qo(l:List UInt8):(dX l).sane:=bO.sane_bind (bL _ _) fun _ _=>bO.sane_bind (bL _ _) fun _ _=>dQ _ _
theorem fT{l r:List UInt8}{v:Nat×Nat}(h:dX l= .ok v r):v.1<=1099511627776/\v.2<=7:=by
 unfold dX at h;cases h1:ak 1099511627776 l with
 | err x=>rw[h1]at h;cases h
 | ok t r1=>
  rw[h1,bO.bind_ok]at h;cases h2:ak 7 r1 with
  | err x=>rw[h2]at h;cases h
  | ok f r2=>
   rw[h2,bO.bind_ok]at h;cases h
   exact⟨az h1,az h2⟩
theorem lC:(Tryz.prog.info? 80).map (·.size)=some 2:=by kernel_rfl
theorem i4(q:Nat)(l:List UInt8)(w:World)(h:bF w q l):
  Calls Tryz.prog 92 #[.pointer (some ⟨q,0,none⟩)] w fun e w'=>kD q (dX l) w w' e fun v=>e= .returned (.agg #[.int .i64 v.1, .int .i64 ((v.2:Int)-1)]):=by
 obtain⟨N,hN⟩:∃N,N=dX l:=⟨_,rfl⟩
 rw[<-hN];obtain⟨r,c⟩:∃r,r=w.alloc (.cells #[.int .i64 0, .int .i64 0] 80):=⟨_,rfl⟩
 have j:Below w.heap.size w r:=by rw[c];exact(Below.refl _ _).alloc (Nat.le_refl _) _
 have s:=Hh (show r.heap[w.heap.size]? =some (.cells #[.int .i64 0, .int .i64 0] 80 (0,0)) by rw[c];exact heap_alloc_new w _);have L:=h.1;have A:=Hh (fV.ofBelow L j);have H:=Hh (h.below j);have D:=Hh c;have M:=Hh hN;have B:w.heap.size<r.heap.size:=by rw[c];simp
 clear hN h c j;go_enter Tryz.func92,Tryz.ntmps92
 go_wp2_with fail;rw[<-D.out];refine(dK q 1099511627776 l _ H.out).mono ?_;rintro e Y ⟨b,g⟩;cases hg1:ak 1099511627776 l with
 | err x=>
  rw[hg1]at g;obtain rfl:e=bK x:=g;have hN:N= .err x:=by rw[M.out,dX,hg1];rfl
  subst hN;have J:=Hh (A.out.trans b);clear hg1 b;go_wp2;exact⟨rfl,J.out,rfl⟩
 | ok t r1=>
  rw[hg1]at g;obtain⟨rfl,o⟩:=g;have U:=az hg1;have wt:IntKind.i64.wrap (t:Int)=t:=IntWalk.i64_in _ (by omega);have y:=Hh (show N=(ak 7 r1).bind fun f O=> .ok (t,f) O by rw[M.out,dX,hg1];rfl);have z:=Hh (A.out.trans b);have G:=Hh o;have m:=Hh ((b.block _ B (by omega)).trans s.out);have S:=b.size;clear hg1 b o;go_wp2_with fail;refine(dK q 7 r1 _ G.out).mono ?_;rintro e X ⟨a,d⟩;cases hg2:ak 7 r1 with
  | err x=>
   rw[hg2]at d;obtain rfl:e=bK x:=d;have hN:N= .err x:=by rw[y.out,hg2];rfl
   subst hN;have J:=Hh (z.out.trans a);clear hg2 a;go_wp2;exact⟨rfl,J.out,rfl⟩
  | ok f r2=>
   rw[hg2]at d;obtain⟨rfl,n⟩:=d;have T:=az hg2;have W:IntKind.i64.wrap (f:Int)=f:=IntWalk.i64_in _ (by omega);have V:IntKind.i64.wrap ((f:Int)-1)=(f:Int)-1:=IntWalk.i64_in _ (by omega);have hN:N= .ok (t,f) r2:=by rw[y.out,hg2];rfl
   subst hN;have I:=Hh (z.out.trans a);have F:=Hh n;have k:=Hh ((a.block _ (by omega) (by omega)).trans m.out);have R:=a.size;clear hg2 a n;go_wp2_with (refine aI rfl 80 (.tmp 2) (.tmp 12) rfl w.heap.size _ rfl rfl 80 _ k.out lC rfl (by simp[Value.oneCell']) ?_;intro Z i C p P);refine bodyPost_ret (results_cell_row rfl _ _ w.heap.size 80 _ (0,0) _ rfl i Tryz.underlying80 rfl lC) rfl ?_;exact⟨I.out.andBelow L p,rfl,F.out.keep (p.mono (by omega))⟩
def dR(l:List UInt8):bO ((Nat×Nat)×List UInt8×List UInt8):=(dX l).bind fun v d=>(aT 2147483647 d).bind fun b c=>(aT 65536 c).bind fun s a=> .ok (v,b,s) a
theorem ua(l:List UInt8):(dR l).sane:=bO.sane_bind (qo _) fun _ _=>bO.sane_bind (gj _ _) fun _ _=>bO.sane_bind (gj _ _) fun _ _=>dQ _ _
structure yz (w:World) (q p rb bb:Nat):Prop where
 hq:q<w.heap.size
 hp:p<w.heap.size
 hr:rb<w.heap.size
 hb:bb<w.heap.size
 qp:q≠p
 qr:q≠rb
 qb:q≠bb
 pr:p≠rb
 pb:p≠bb
 nrb:rb≠bb
 c:w.cell? ⟨rb,0,none⟩=some (.pointer (some ⟨p,0,none⟩))
structure Hd (w:World) (q p bb:Nat) (W:World) (r:List UInt8) (R:aa) (M:ay) (bv:Value):Prop where
 os:W.os=w.os
 tape:W.tape=w.tape
 output:W.output=w.output
 size:w.heap.size<=W.heap.size
 blk:∀k,k<w.heap.size->k≠q->k≠p->k≠bb->W.heap[k]? =w.heap[k]?
 eye:bF W q r
 row:W.heap[p]? =some (.cells (aP R M).toArray 84 (0,0))
 bx:W.heap[bb]? =some (.cells #[bv] 27 (0,0))
section
variable {w W W' : World} {q p rb bb : Nat} {r r' : List UInt8} {R R' : aa} {M M' : ay} {v v' : Value}
theorem Hd.but(h:Hd w q p bb W r R M v)(hw:yz w q p rb bb)(hb:fV q W W')(he:bF W' q r'):Hd w q p bb W' r' R M v:=by have b:=h.size;have:=hw.hp;have:=hw.hb;exact⟨hb.os.trans h.os,hb.tape.trans h.tape,hb.output.trans h.output,Nat.le_trans b hb.size,fun k e a d c=>(hb.block k (by omega) a).trans (h.blk k e a d c),he,(hb.block _ (by omega) hw.qp.symm).trans h.row,(hb.block _ (by omega) hw.qb.symm).trans h.bx⟩
theorem Hd.below(h:Hd w q p bb W r R M v)(hw:yz w q p rb bb)(hb:Below W.heap.size W W'):Hd w q p bb W' r R M v:=h.but hw (fV.ofBelow (Nat.lt_of_lt_of_le hw.hq h.size) hb) (h.eye.below hb)
theorem Hd.box(h:Hd w q p bb W r R M v)(hw:yz w q p rb bb):W.cell? ⟨rb,0,none⟩=some (.pointer (some ⟨p,0,none⟩)):=(World.cell?_of_block (a:=⟨rb,0,none⟩) (h.blk rb hw.hr hw.qr.symm hw.pr.symm hw.nrb)).trans hw.c
theorem Hd.c(h:Hd w q p bb W r R M v){i:Nat}{u:Value}(a:(aP R M)[i]? =some u):W.cell? ⟨p,i,none⟩=some u:=by rw[cell_of_row _ _ _ _ _ _ h.row,List.getElem?_toArray];exact a
theorem Hd.f(h:Hd w q p bb W r R M v)(i:Nat):W.frozen? ⟨p,i,none⟩=false:=frozen_of_row _ _ _ _ _ h.row
theorem Hd.setp(h:Hd w q p bb W r R M v)(hw:yz w q p rb bb)(i:Nat)(x u:Value)(hi:(aP R M)[i]? =some u)(hu:∀c:Int,u≠.int .u8 c)(hc:(aP R M).set i x=aP R' M'):Hd w q p bb (W.setCell ⟨p,i,none⟩ x) r R' M' v:=by
 have e:=heap_setCell_same W p i _ _ x h.row;have a:∀k,k≠p->(W.setCell ⟨p,i,none⟩ x).heap[k]? =W.heap[k]? :=fun k d=>Below.heap_setCell _ _ _ k d
 refine⟨h.os,h.tape,h.output,by simpa using h.size,fun k j g b f=>(a k b).trans (h.blk k j g b f),bF.setOther h.eye hw.qp.symm (h.c hi) hu x,?_,(a _ hw.pb.symm).trans h.bx⟩;rw[e,<-hc]
 simp
theorem Hd.setb(h:Hd w q p bb W r R M v)(hw:yz w q p rb bb)(hv:∀c:Int,v≠.int .u8 c)(x:Value):Hd w q p bb (W.setCell ⟨bb,0,none⟩ x) r R M x:=by
 have e:=heap_setCell_same W bb 0 _ _ x h.bx;have a:∀k,k≠bb->(W.setCell ⟨bb,0,none⟩ x).heap[k]? =W.heap[k]? :=fun k d=>Below.heap_setCell _ _ _ k d
 refine⟨h.os,h.tape,h.output,by simpa using h.size,fun k i g f b=>(a k b).trans (h.blk k i g f b),bF.setOther h.eye hw.qb.symm (cell_of_row W bb 0 _ _ _ h.bx) hv x,(a _ hw.pb).trans h.row,?_⟩;rw[e];rfl
theorem Hd.err(h:Hd w q p bb W r R M v)(hw:yz w q p rb bb)(hb:fV q W W'){x:Int}{α:Type}{is:α->Prop}:ix q (fun k=>k=p\/k=bb) (.err x:bO α) w W' (bK x) is:=by have c:=h.size;exact⟨hb.os.trans h.os,hb.tape.trans h.tape,hb.output.trans h.output,Nat.le_trans c hb.size,fun k d b a=>(hb.block k (by omega) b).trans (h.blk k d b (fun e=>a (.inl e)) (fun e=>a (.inr e))),fun _ h=>by cases h;rfl,fun _ _ h=>by cases h⟩
end
structure lU (rb p:Nat) (W:World):Prop where
 c:W.cell? ⟨rb,0,none⟩=some (.pointer (some ⟨p,0,none⟩))
theorem oj(q p rb y:Nat)(R:aa)(M:ay)(l:List UInt8)(w:World)(hw:yz w q p rb y)(h:Hd w q p y w l R M (.slice none 0 0)):
  Calls Tryz.prog 91 #[.pointer (some ⟨q,0,none⟩), .pointer (some ⟨rb,0,none⟩), .pointer (some ⟨y,0,none⟩)] w fun e w'=>ix q (fun k=>k=p\/k=y) (dR l) w w' e fun v=>
   ∃ba bc sa sc,w'.heap[p]? =some (.cells (aP { R with bt:=v.1.1,bf:=(v.1.2:Int)-1,state:=v.2.2 } { M with sa:=sa,sc:=sc }).toArray 84 (0,0))/\w'.heap[y]? =some (.cells #[.slice ba v.2.1.length bc] 27 (0,0))/\
    w'.ownsRow w.heap.size 5 1 (.slice ba v.2.1.length bc) v.2.1.length (v.2.1.map bv)/\w'.ownsRow w.heap.size 5 1 (.slice sa v.2.2.length sc) v.2.2.length (v.2.2.map bv):=by
 obtain⟨N,hN⟩:∃N,N=dR l:=⟨_,rfl⟩
 rw[<-hN];have HN:=Hh hN;have a:=Hh hw;have H0:=Hh h;clear hN hw h;go_enter Tryz.func91,Tryz.ntmps91
 go_wp2_with fail;refine fx (S:=lU rb p) ?_;have d:Below w.heap.size w w.drew:=(Below.refl _ _).drew;have H1:=Hh (H0.out.below a.out d);have i:lU rb p w.drew:=⟨H1.out.box a.out⟩
 refine hT 0 4 i ?_;refine hT 1 5 i ?_;clear i;refine bp 2 ?_;go_simp;refine(i4 q l _ H1.out.eye).mono ?_;rintro e T ⟨o,B⟩;cases hg2:dX l with
 | err x=>
  rw[hg2]at B;obtain rfl:e=bK x:=B;have hN:N= .err x:=by rw[HN.out,dR,hg2];rfl
  subst hN;have HB:=Hh o;clear hg2 o d;go_wp2;exact⟨rfl,H1.out.err a.out HB.out⟩
 | ok v r1=>
  rw[hg2]at B;obtain⟨rfl,he2⟩:=B;obtain⟨t,f⟩:=v;have HN2:=Hh (show N=(aT 2147483647 r1).bind fun b r2=>(aT 65536 r2).bind fun s U=> .ok ((t,f),b,s) U by rw[HN.out,dR,hg2];rfl);have HS2:=Hh (show w.heap.size<=T.heap.size from o.size);have Y:=Hh (H1.out.but a.out o he2);have G:lU rb p T:=⟨Y.out.box a.out⟩
  refine⟨G,?_⟩;clear hg2 o he2 d;refine hT 3 7 G ?_;refine hT 4 8 G ?_;clear G;have c2:T.cell? ⟨p,2,none⟩=some (.int .i64 R.bt):=Y.out.c rfl;have c3:T.cell? ⟨p,3,none⟩=some (.int .i64 R.bf):=Y.out.c rfl;have f2:=Y.out.f 2;have f3:=Y.out.f 3;refine bp 5 ?_;go_simp;obtain⟨W,D⟩:∃W,W=(T.setCell ⟨p,2,none⟩ (.int .i64 t)).setCell ⟨p,3,none⟩ (.int .i64 ((f:Int)-1)):=⟨_,rfl⟩
  rw[<-D];obtain⟨X,O⟩:∃X:aa,X={ R with bt:=t,bf:=(f:Int)-1 }:=⟨_,rfl⟩
  have H3:=Hh (show Hd w q p y W r1 X M (.slice none 0 0) by rw[D,O];have h3:=Y.out.setp (R':={ R with bt:=t }) (M':=M) a.out 2 (.int .i64 t) (iz R.bt) rfl (by intro c e;cases e) (bg (by omega) rfl rfl rfl rfl rfl);exact h3.setp (R':={ R with bt:=t,bf:=(f:Int)-1 }) (M':=M) a.out 3 (.int .i64 ((f:Int)-1)) (iz R.bf) rfl (by intro c e;cases e) (bg (by omega) rfl rfl rfl rfl rfl))
  have hs3:T.heap.size<=W.heap.size:=by rw[D];simp
  have hS3:lU rb p W:=⟨H3.out.box a.out⟩
  have HR3:=Hh O;refine⟨hS3,dc ?_⟩;clear D O c2 c3 f2 f3 hS3;go_wp2_with fail;refine(iQ q 2147483647 r1 _ H3.out.eye (by omega)).mono ?_;rintro e w4 ⟨m,A⟩;cases hg4:aT 2147483647 r1 with
  | err x=>
   rw[hg4]at A;obtain rfl:e=bK x:=A;have hN:N= .err x:=by rw[HN2.out,hg4];rfl
   subst hN;have HB:=Hh m;clear hg4 m;go_wp2;exact⟨rfl,H3.out.err a.out HB.out⟩
  | ok b r2=>
   rw[hg4]at A;obtain⟨⟨ba,bc,rfl, -,ho4⟩,he4⟩:=A;have HN4:=Hh (show N=(aT 65536 r2).bind fun s U=> .ok ((t,f),b,s) U by rw[HN2.out,hg4];rfl);have H4:=Hh (H3.out.but a.out m he4);have HO4:=Hh (World.ownsRow.mono ho4 (show w.heap.size<=W.heap.size from Nat.le_trans HS2.out hs3));have hs4:=m.size;have cb:=cell_of_row w4 y 0 _ _ _ H4.out.bx;have fb:=frozen_of_row w4 y 0 _ _ H4.out.bx;have H5:=Hh (H4.out.setb a.out (by intro c e;cases e) (.slice ba b.length bc));obtain⟨I,r⟩:∃I,I=w4.setCell ⟨y,0,none⟩ (.slice ba b.length bc):=⟨_,rfl⟩
   rw[<-r]at H5;have hbb:=a.out.hb;have hpp:=a.out.hp;have hqq:=a.out.hq;have HO5:=Hh (show I.ownsRow w.heap.size 5 1 (.slice ba b.length bc) b.length (b.map bv) by rw[r];exact aE HO4.out fun g V=>Below.heap_setCell _ _ _ g (by have:=(own_lt HO4.out V).1;show g≠y;omega))
   have hs5:w4.heap.size<=I.heap.size:=by rw[r];simp
   have HW5:=Hh r;clear hg4 m ho4 he4 r;go_wp2_with fail;rw[<-HW5.out];clear cb fb;refine fx (S:=lU rb p) ?_;have d:Below I.heap.size I I.drew:=(Below.refl _ _).drew;have H6:=Hh (H5.out.below a.out d);have P:=Hh (da HO5.out d);have i:lU rb p I.drew:=⟨H6.out.box a.out⟩
   refine hT 0 11 i ?_;refine hT 1 12 i ?_;clear i;refine bp 2 ?_;go_simp;refine(iQ q 65536 r2 _ H6.out.eye (by omega)).mono ?_;rintro e Z ⟨j,z⟩;cases hg7:aT 65536 r2 with
   | err x=>
    rw[hg7]at z;obtain rfl:e=bK x:=z;have hN:N= .err x:=by rw[HN4.out,hg7];rfl
    subst hN;have HB:=Hh j;clear hg7 j d;go_wp2;exact⟨rfl,H6.out.err a.out HB.out⟩
   | ok s U=>
    rw[hg7]at z;obtain⟨⟨sa,sc,rfl, -,ho7⟩,he7⟩:=z;have hN:N= .ok ((t,f),b,s) U:=by rw[HN4.out,hg7];rfl
    subst hN;have H7:=Hh (H6.out.but a.out j he7);have HO7b:=Hh (show Z.ownsRow w.heap.size 5 1 (.slice ba b.length bc) b.length (b.map bv) from aE P.out fun g V=>j.block g (own_lt P.out V).2 (by have:=(own_lt P.out V).1;omega));have HO7s:=Hh (World.ownsRow.mono ho7 (show w.heap.size<=I.drew.heap.size from Nat.le_trans HS2.out (Nat.le_trans hs3 (Nat.le_trans hs4 hs5))));have F:lU rb p Z:=⟨H7.out.box a.out⟩
    refine⟨F,?_⟩;clear hg7 j ho7 he7 d;refine hT 3 14 F ?_;refine hT 4 15 F ?_;clear F;have c5:Z.cell? ⟨p,5,none⟩=some (.slice M.sa X.state.length M.sc):=H7.out.c rfl;have f5:=H7.out.f 5;refine bp 5 ?_;refine aj 27 (.tmp 15) (.tmp 13) rfl p 5 (.slice sa s.length sc) _ rfl rfl rfl (by kernel_rfl) c5 f5 ?_;obtain⟨W8,C⟩:∃W8,W8=Z.setCell ⟨p,5,none⟩ (.slice sa s.length sc):=⟨_,rfl⟩
    rw[<-C];have J:=Hh (show Hd w q p y W8 U { X with state:=s } { M with sa:=sa,sc:=sc } (.slice ba b.length bc) by rw[C];exact H7.out.setp a.out 5 (.slice sa s.length sc) (.slice M.sa X.state.length M.sc) rfl (by intro c e;cases e) (bg (by omega) rfl rfl rfl rfl rfl))
    have L:∀(v:Value) (n:Nat) (xs:List Value),Z.ownsRow w.heap.size 5 1 v n xs->W8.ownsRow w.heap.size 5 1 v n xs:=fun v n xs H=>by rw[C];exact aE H fun g V=>Below.heap_setCell _ _ _ g (by have:=(own_lt H V).1;show g≠p;omega)
    have HO8b:=Hh (L _ _ _ HO7b.out);have HO8s:=Hh (L _ _ _ HO7s.out);have hS8:lU rb p W8:=⟨J.out.box a.out⟩
    refine⟨hS8,dc ?_⟩;clear hS8 c5 f5 C L;go_wp2;go_end0;refine⟨J.out.os,J.out.tape,J.out.output,J.out.size,fun k h1 h2 h3=>J.out.blk k h1 h2 (fun e=>h3 (.inl e)) (fun e=>h3 (.inr e)),(fun x H=>by cases H),(fun v' r' H=> ?_)⟩;cases H
    refine⟨rfl,J.out.eye.len,ba,bc,sa,sc,?_,J.out.bx,HO8b.out,HO8s.out⟩;have H:=J.out.row;rw[HR3.out]at H;exact H
structure dS (p:Nat) (w w':World):Prop where
 os:w'.os=w.os
 tape:w'.tape=w.tape
 output:w'.output=w.output
 size:w.heap.size<=w'.heap.size
 block:∀k,k<w.heap.size->k≠p->w'.heap[k]? =w.heap[k]?
def ks(R:aa):bO ((Nat×Nat)×List UInt8×List UInt8)->Option aa
 | .ok v rest=>if rest= [] then(jw (cx v.2.1)).2.map fun x=>{ R with bt:=v.1.1,bf:=(v.1.2:Int)-1,state:=v.2.2,line:=x } else none
 | .err _=>none
def aa.readHead(R:aa)(l:List UInt8):Option aa:=ks R (dR l)
theorem ao.headed{w i:World}{p:Nat}{R R1:aa}{M M1:ay}(h:ao w p R M)(hsp:dS p w i)(hrow:i.heap[p]? =some (.cells (aP R1 M1).toArray 84 (0,0)))
 (B:rJ R1)(hM:M1={ M with sa:=M1.sa,sc:=M1.sc })(hn:R1.news=R.news)(ho:R1.out=R.out)(hst:cS i M1.sa M1.sc R1.state){base lp lc:Nat}{la:Option Addr}{ms:List af}{x:ae}(r:cE i base lp x la lc ms)(hb:w.heap.size<=base):
  ao (i.setCell ⟨p,4,none⟩ (.pointer (some ⟨lp,0,none⟩))) p { R1 with line:=x } { M1 with lb:=lp,la:=la,lc:=lc,ms:=ms }/\ah p M { M1 with lb:=lp,la:=la,lc:=lc,ms:=ms } w (i.setCell ⟨p,4,none⟩ (.pointer (some ⟨lp,0,none⟩))):=by
 have U:=h.lt;have s:=hsp.size;have N:=r.pb;obtain⟨a1,Z,S,P,Y,X,W,V⟩:=h.apart;have d:∀k,k≠p->(i.setCell ⟨p,4,none⟩ (.pointer (some ⟨lp,0,none⟩))).heap[k]? =i.heap[k]? :=fun k l=>Below.heap_setCell _ _ _ k l
 have y:∀ {g o},w.heap[g]? =some o->g<w.heap.size:=fun I=>(Array.getElem?_eq_some_iff.1 I).1
 have J:∀(k:Nat) (o:Array Value) (fr:Nat×Nat),i.heap[k]? =some (Obj.cells o 5 fr)->(i.setCell ⟨p,4,none⟩ (.pointer (some ⟨lp,0,none⟩))).heap[k]? =i.heap[k]? :=fun k o fr l=>d k (fun e=>by rw[e]at l;obtain⟨-, -, -, -,L, -⟩:=iC;exact L (aB hrow l))
 have z:∀k,la.map (·.block)=some k->base<=k:=fun k l=>(own_lt r.own (by rw[al];exact l)).1
 have G:∀m∈M.ns,cS (i.setCell ⟨p,4,none⟩ (.pointer (some ⟨lp,0,none⟩))) m.a m.c m.b:=fun m O=>
  OwnBs.grown (T:=5) (h.nb m O) (fun k o fr l A=>by
   have f:k≠p:=fun e=>h.notU8 A (.inl e)
   exact(d k f).trans (hsp.block k l f)) (by simpa using s)
 have D:∀g,M.na.map (·.block)=some g->(i.setCell ⟨p,4,none⟩ (.pointer (some ⟨lp,0,none⟩))).heap[g]? =w.heap[g]? :=fun g n=>by
  have f:g≠p:=fun e=>S (by rw[<-e];exact n)
  obtain⟨cur,A⟩:=au h.nw n;exact(d g f).trans (hsp.block g (y A) f)
 have C:∀g,M.oa.map (·.block)=some g->(i.setCell ⟨p,4,none⟩ (.pointer (some ⟨lp,0,none⟩))).heap[g]? =w.heap[g]? :=fun g n=>by
  have f:g≠p:=fun e=>P (by rw[<-e];exact n)
  obtain⟨cur,A⟩:=au h.ou n;exact(d g f).trans (hsp.block g (y A) f)
 have H:cE (i.setCell ⟨p,4,none⟩ (.pointer (some ⟨lp,0,none⟩))) 0 lp x la lc ms:=bS.mono (bS.moved r (by simp) (fun _ _=>d _ (by omega)) (fun g cur n _=>d g (by have:=z g (by rw[<-al la ms.length lc];exact n);omega)) (fun k o fr _ l=>J k o fr l)) (Nat.zero_le _)
 have q:cS (i.setCell ⟨p,4,none⟩ (.pointer (some ⟨lp,0,none⟩))) M1.sa M1.sc R1.state:=OwnBs.grown (T:=5) hst (fun k o fr _ l=>J k o fr l) (by simp);have I:=heap_setCell_same i p 4 _ _ (.pointer (some ⟨lp,0,none⟩)) hrow;obtain⟨sa,v⟩:∃sa,sa=M1.sa:=⟨_,rfl⟩
 obtain⟨sc,t⟩:∃sc,sc=M1.sc:=⟨_,rfl⟩
 rw[<-v,<-t]at hM q;subst hM;clear v t;have hT:ah p M { M with sa:=sa,sc:=sc,lb:=lp,la:=la,lc:=lc,ms:=ms } w (i.setCell ⟨p,4,none⟩ (.pointer (some ⟨lp,0,none⟩))):=by
  refine⟨hsp.os,hsp.tape,hsp.output,by simpa using s,fun k l F=> ?_,fun k l=> ?_⟩
  ·have f:k≠p:=fun e=>F (.inl e)
   exact(d k f).trans (hsp.block k l f)
  ·rcases l with e | e | e | e | e
   ·exact .inl (.inl e)
   ·right;have:k=lp:=e;omega
   ·right;have:=z k e;omega
   ·exact .inl (.inr (.inr (.inr (.inl e))))
   ·exact .inl (.inr (.inr (.inr (.inr e))))
 refine⟨⟨B.cp rfl rfl rfl,?_,H,q,aE h.nw fun g n=>D g (by rw[al]at n;exact n),G,by rw[hn];exact h.nq,aE h.ou fun g n=>C g (by rw[al]at n;exact n),by rw[ho];exact h.oq,by rw[ho];exact h.postKeep hT rfl rfl⟩,hT⟩;rw[I];rw[<-bg (R:=R1) (R':={ R1 with line:=x }) (M:={ M with sa:=sa,sc:=sc }) (M':={ M with sa:=sa,sc:=sc,lb:=lp,la:=la,lc:=lc,ms:=ms }) (j:=4) (x:= .pointer (some ⟨lp,0,none⟩)) (by omega) rfl rfl rfl rfl rfl]
 simp
theorem pQ{l r:List UInt8}{v:(Nat×Nat)×List UInt8×List UInt8}(h:dR l= .ok v r):v.1.1<=1099511627776/\v.1.2<=7/\v.2.1.length<=2147483647/\v.2.2.length<=65536:=by
 unfold dR at h;cases h1:dX l with
 | err x=>rw[h1]at h;cases h
 | ok t r1=>
  rw[h1,bO.bind_ok]at h;cases h2:aT 2147483647 r1 with
  | err x=>rw[h2]at h;cases h
  | ok b r2=>
   rw[h2,bO.bind_ok]at h;cases h3:aT 65536 r2 with
   | err x=>rw[h3]at h;cases h
   | ok s r3=>
    rw[h3,bO.bind_ok]at h;cases h
    exact⟨(fT h1).1,(fT h1).2,(fD h2).2,(fD h3).2⟩
theorem px(p:Nat)(R:aa)(M:ay)(l:List UInt8)(a:Option Addr)(c:Nat)(w:World)(hl:aM w w.heap.size a l.length c l)(h:ao w p R M):
  Calls Tryz.prog 56 #[.pointer (some ⟨p,0,none⟩), .slice a l.length c] w fun e w'=>match R.readHead l with
   | none=>e= .returned (.bool false)/\dS p w w'
   | some R'=>e= .returned (.bool true)/\∃M',ao w' p R' M'/\ah p M M' w w':=by
 obtain⟨N,hN⟩:∃N,N=dR l:=⟨_,rfl⟩
 have j:=ua l;rw[<-hN]at j;obtain⟨O,hO⟩:∃O,O=R.readHead l:=⟨_,rfl⟩
 have HOO:=Hh (show O=ks R N by rw[hO,hN];rfl);rw[<-hO];have HN:=Hh hN;obtain⟨P,s⟩:∃P,P=(w.alloc (.cells #[.pointer (some ⟨p,0,none⟩)] 25)).alloc (.cells #[.slice none 0 0] 27):=⟨_,rfl⟩
 have z:Below w.heap.size w P:=by rw[s];exact((Below.refl _ _).alloc (Nat.le_refl _) _).alloc (by simp) _
 have hs1:P.heap.size=w.heap.size+2:=by rw[s];simp
 have Y:P.heap[w.heap.size]? =some (.cells #[.pointer (some ⟨p,0,none⟩)] 25 (0,0)):=by rw[s];exact(((Below.refl _ _).alloc (Nat.le_refl (w.alloc (.cells #[.pointer (some ⟨p,0,none⟩)] 25)).heap.size) _).block _ (by simp)).trans (heap_alloc_new w _)
 have hb1:P.heap[w.heap.size+1]? =some (.cells #[.slice none 0 0] 27 (0,0)):=by rw[s];have y:=heap_alloc_new (w.alloc (.cells #[.pointer (some ⟨p,0,none⟩)] 25)) (.cells #[.slice none 0 0] 27);simpa using y
 have hpl:=h.lt;have HH:=Hh h;have HR1:=Hh (h.below z);have B:=Hh z;have HRB:=Hh Y;have HBB:=Hh hb1;have HL:=Hh ((hl.below z (Nat.le_refl _)).mono z.size);have HW1:=Hh s;have HSN:=Hh j;clear hN j hO s z Y hb1 h hl;go_enter Tryz.func56,Tryz.ntmps56
 go_wp2_with fail;rw[<-HW1.out];refine(kz N HSN.out l a l.length c 91 (iR Tryz.func91 (by kernel_rfl) rfl) #[] #[.pointer (some ⟨w.heap.size,0,none⟩), .pointer (some ⟨w.heap.size+1,0,none⟩)] (fun k=>k=p\/k=w.heap.size+1) P (fun k T=>by omega) HL.out
  (fun A w' v=>∃ba V D C,w'.heap[p]? =some (.cells (aP { R with bt:=v.1.1,bf:=(v.1.2:Int)-1,state:=v.2.2 } { M with sa:=D,sc:=C }).toArray 84 (0,0))/\w'.heap[w.heap.size+1]? =some (.cells #[.slice ba v.2.1.length V] 27 (0,0))/\
    w'.ownsRow A.heap.size 5 1 (.slice ba v.2.1.length V) v.2.1.length (v.2.1.map bv)/\w'.ownsRow A.heap.size 5 1 (.slice D v.2.2.length C) v.2.2.length (v.2.2.map bv)) ?_).mono ?_
 ·intro q A hb hq he;have hs:=hb.size;show Calls _ 91 #[.pointer (some ⟨q,0,none⟩), .pointer (some ⟨w.heap.size,0,none⟩), .pointer (some ⟨w.heap.size+1,0,none⟩)] A _;rw[HN.out];exact oj q p w.heap.size (w.heap.size+1) R M l A ⟨he.1,by omega,by omega,by omega,by omega,by omega,by omega,by omega,by omega,by omega,cell_of_row A w.heap.size 0 _ _ _ ((hb.block _ (by omega)).trans HRB.out)⟩
   ⟨rfl,rfl,rfl,Nat.le_refl _,fun _ _ _ _ _=>rfl,he,(hb.block _ (by omega)).trans HR1.out.row,(hb.block _ (by omega)).trans HBB.out⟩
 ·rintro e G ⟨rfl,⟨ho,ht,hu,hz,I⟩,a0⟩;have i:=Hh (show dS p w G from⟨ho.trans B.out.os,ht.trans B.out.tape,hu.trans B.out.output,by omega,fun k T f=>(I k (by omega) (fun y=>by omega)).trans (B.out.block k T)⟩);have HOK:=Hh a0;have HRB2:=Hh ((I w.heap.size (by omega) (fun y=>by omega)).trans HRB.out);clear ho ht hu I a0;by_cases d:∃v,N= .ok v []
  ·obtain⟨v,X⟩:=d;obtain⟨A,w',rb,k1,k2,k3,k4,⟨ba,V,D,C,r1,r2,r3,r4⟩,S⟩:=HOK.out v X;have hk4:=k4.size;have hmost:=pQ (l:=l) (r:= []) (v:=v) (by rw[<-HN.out];exact X);have t1:(N.code !=0)=false:=by rw[X];rfl
   have HROW:=Hh ((S.block p (by omega) (by omega)).trans r1);have HBX:=Hh ((S.block (w.heap.size+1) (by omega) (by omega)).trans r2);have a1:G.ownsRow A.heap.size 5 1 (.slice ba v.2.1.length V) v.2.1.length (v.2.1.map bv):=aE r3 fun g hg=>S.block g (own_lt r3 hg).2 (by have:=(own_lt r3 hg).1;omega)
   have Z:G.ownsRow A.heap.size 5 1 (.slice D v.2.2.length C) v.2.2.length (v.2.2.map bv):=aE r4 fun g hg=>S.block g (own_lt r4 hg).2 (by have:=(own_lt r4 hg).1;omega)
   have HBS:=Hh (show aM G G.heap.size ba v.2.1.length V v.2.1 from(OwnBs.of_own (t:=0) (n:=v.2.1.length) a1 (by omega)).1);have HST:=Hh (show cS G D C v.2.2 from OwnBs.of_own (n:=v.2.2.length) Z (by omega));have HOV:=Hh (show O=(jw (cx v.2.1)).2.map fun x=>{ R with bt:=v.1.1,bf:=(v.1.2:Int)-1,state:=v.2.2,line:=x } by rw[HOO.out,X];rfl);have hk5:=S.size;have cb:=cell_of_row G (w.heap.size+1) 0 _ _ _ HBX.out;clear X k4 S r1 r2 r3 r4 a1 Z;go_wp2_with fail;refine(vA v.2.1 ba v.2.1.length V _ HBS.out).mono ?_;rintro e W ⟨b,H⟩;have hs3:=b.size;have F:=Hh (show dS p w W from⟨b.os.trans i.out.os,b.tape.trans i.out.tape,b.output.trans i.out.output,Nat.le_trans i.out.size hs3,fun k T f=>(b.block k (by have:=i.out.size;omega)).trans (i.out.block k T f)⟩);have HST3:=Hh (HST.out.below b);have m:=Hh ((b.block p (by omega)).trans HROW.out);have cr:W.cell? ⟨w.heap.size,0,none⟩=some (.pointer (some ⟨p,0,none⟩)):=cell_of_row W _ 0 _ _ _ ((b.block _ (by omega)).trans HRB2.out);have c4:W.cell? ⟨p,4,none⟩=some (.pointer (some ⟨M.lb,0,none⟩)):=by rw[cell_of_row _ _ _ _ _ _ m.out];rfl
   have f4:W.frozen? ⟨p,4,none⟩=false:=frozen_of_row _ _ _ _ _ m.out;obtain⟨L,U⟩:∃L,L=jw (cx v.2.1):=⟨_,rfl⟩
   rw[<-U]at H;have HLL:=Hh U;clear cb;obtain⟨E,o⟩:=L;cases o with
   | none=>
    obtain rfl:e= .returned (.tuple #[.pointer none, .int .i64 E]):=H;have hE:=uh U.symm;have tE:(E==0)=false:=by simpa using hE
    have J:O=none:=by rw[HOV.out,<-HLL.out];rfl
    subst J;clear b U hE;go_wp2;go_ret;have y:=F.out;exact⟨rfl,y.os,y.tape,y.output,by simpa using y.size,fun k T f=>(Below.heap_setCell _ _ _ k (by show k≠p;exact f)).trans (y.block k T f)⟩
   | some x=>
    obtain⟨lp,la,lc,ms,rfl,a2⟩:=H;obtain⟨rfl, -, -⟩:=oN U.symm;have HLN:=Hh a2;have hOS:O=some { R with bt:=v.1.1,bf:=(v.1.2:Int)-1,state:=v.2.2,line:=x }:=by rw[HOV.out,<-HLL.out];rfl
    subst hOS;have HB3:=Hh b;clear b a2 U;go_wp2;go_ret;exact⟨rfl,_,HH.out.headed (R1:={ R with bt:=v.1.1,bf:=(v.1.2:Int)-1,state:=v.2.2 }) (M1:={ M with sa:=D,sc:=C }) F.out m.out (HH.out.sv.cp rfl rfl rfl) rfl rfl rfl HST3.out HLN.out (Nat.le_trans (by omega) i.out.size)⟩
  ·have f:N.code≠0:=by
    cases hR:N with
    | err x=>exact HSN.out x hR
    | ok v rest=>
     simp only[bO.code];split
     ·rename_i y;exact absurd ⟨v,by rw[hR,y]⟩ d
     ·decide
   have t1:(N.code !=0)=true:=by simpa using f
   have J:O=none:=by
    rw[HOO.out];cases hR:N with
    | err x=>rfl
    | ok v rest=>simp only[ks];rw[if_neg (fun y=>d ⟨v,by rw[hR,y]⟩)]
   subst J;clear d f;go_wp2;go_ret;exact⟨rfl,i.out⟩
end Go.Proofs.YtogcnfhmcpkdcaaGreat
