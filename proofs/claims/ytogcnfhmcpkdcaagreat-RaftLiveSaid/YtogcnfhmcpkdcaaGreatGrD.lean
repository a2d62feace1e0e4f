/-
Walks of a group: a letter comes (deliver).
-/
import Derived.Test.YtogcnfhmcpkdcaaGreatGrW9
import Derived.Test.YtogcnfhmcpkdcaaGreatRaftNB
import Derived.Test.YtogcnfhmcpkdcaaGreatLetRz
import Derived.Test.YtogcnfhmcpkdcaaGreatHeldM
namespace Go.Proofs.YtogcnfhmcpkdcaaGreat
open Go.RowKit
set_option linter.unusedVariables false
set_option linter.unusedSimpArgs false
section
variable {w w' w1 : World} {B g c : Nat} {G : ac} {M : bG} {i : Nat}
theorem aA.setBag(h:aA w B g c G M)(hb:Below w.heap.size w w1){ms':List bE}(D:∀m∈ms',m∈M.ms){a:Option Addr}{c' C:Nat}(O:ms'.length=C)(ho:w1.ownsRow w.heap.size 99 3 (.slice a C c') C (ms'.flatMap bE.cells)):
  aA (w1.setCell ⟨g,4,none⟩ (.slice a C c')) B g c { G with bag:=ms'.map bE.p } { M with ra:=fB M.ra 4 a,rc:=fB M.rc 4 c',ms:=ms' }:=by
 subst O;obtain⟨s,f⟩:∃s:ac,s={ G with bag:=ms'.map bE.p }:=⟨_,rfl⟩
 obtain⟨n,b⟩:∃n:bG,n={ M with ra:=fB M.ra 4 a,rc:=fB M.rc 4 c',ms:=ms' }:=⟨_,rfl⟩
 rw[<-f,<-b];have o:n.ra=fB M.ra 4 a:=by rw[b]
 have y:n.rc=fB M.rc 4 c':=by rw[b]
 have hN:∀j,j<8->j≠4->bR s n j=bR G M j:=fun j I l=>by rw[f,b];unfold bR;split<;>first | rfl | exact absurd rfl l
 have R:∀j,j<8->j≠4->cu s n j=cu G M j:=fun j I l=>by rw[f,b];unfold cu;split<;>first | rfl | exact absurd rfl l
 have A:bR s n 4=ms'.length:=by rw[b];rfl
 have H:cu s n 4=ms'.flatMap bE.cells:=by rw[b];rfl
 have z:aY s n 4= .slice a ms'.length c':=by unfold aY;rw[o,y,A,dp,dp]
 have hV:∀j,j<8->j≠4->aY s n j=aY G M j:=fun j I l=>by unfold aY;rw[o,y,hN j I l,cN _ _ l,cN _ _ l]
 have F:=h.lt (x:= .g) rfl;have q:∀k,k≠g->(w1.setCell ⟨g,4,none⟩ (.slice a ms'.length c')).heap[k]? =w1.heap[k]? :=fun k r=>Below.heap_setCell _ _ _ k r
 have L:lP g M (fun x=>x= .g\/x= .row 4) w (w1.setCell ⟨g,4,none⟩ (.slice a ms'.length c')):=⟨hb.os,hb.tape,hb.output,by simpa using hb.size,fun k r N=>by
  have S:k≠g:=fun e=>N .g e (.inl rfl)
  exact(q k S).trans (hb.block k r)⟩
 have v:w1.heap[g]? =some (.cells (ce G M) 67 (0,0)):=(hb.block g F).trans h.row;have d:=h.contTo L;refine h.putRow (i:=4) (by omega) L ?_ ?_ hN R (fun j l=>by rw[o,cN _ _ l]) (fun j l=>by rw[y,cN _ _ l]) (fun k r=> ?_) (by rw[b]) (by rw[f]) (fun j t J _=>by rw[b]at J;exact J) ?_ (.inl (by omega))
 ·rw[heap_setCell_same w1 g 4 _ _ (.slice a ms'.length c') v,<-z,jJ (by omega) hV (by rw[f])]
 ·rw[z,A,H];refine kL (aE ho fun k r=>q k (fun e=> ?_));have:=(own_lt ho r).1;omega
 ·rw[o,dp]at r;exact .inr (own_lt ho (by rw[al];exact r)).1
 ·rw[f,b];exact⟨d.hq,d.hb,d.tq,d.tr,d.tb,rfl,fun m P=>d.bb m (D m P),d.sq,d.sb⟩
theorem kO:∀(l:List bE) (k:Nat) (m:bE),l[k]? =some m->(l.flatMap bE.cells)[k*3]? =some (.int .i64 m.f)/\(l.flatMap bE.cells)[k*3+1]? =some (.int .i64 m.t)/\(l.flatMap bE.cells)[k*3+2]? =some (.slice m.a m.b.length m.c)
 | [],k,m,h=>by simp at h
 | x::l,0,m,h=>by simp at h;subst h;exact⟨rfl,rfl,rfl⟩
 | x::l,k+1,m,h=>by have:=kO l k m (by simpa using h);rw[show(k+1)*3=k*3+1+1+1 by omega];exact this
theorem jy:∀(l:List bE) (k:Nat),(l.flatMap bE.cells).take (k*3)=(l.take k).flatMap bE.cells
 | [],k=>by simp
 | x::l,0=>by simp
 | x::l,k+1=>by have a:=jy l k;rw[List.flatMap_cons,List.take_succ_cons,List.flatMap_cons,<-a,show(k+1)*3=x.cells.length+k*3 by show _=3+k*3;omega,List.take_length_add_append]
theorem jz:∀(l:List bE) (k:Nat),(l.flatMap bE.cells).drop (k*3)=(l.drop k).flatMap bE.cells
 | [],k=>by simp
 | x::l,0=>by simp
 | x::l,k+1=>by have a:=jz l k;rw[List.flatMap_cons,List.drop_succ_cons,<-a,show(k+1)*3=x.cells.length+k*3 by show _=3+k*3;omega,List.drop_length_add_append]
structure tP (g b n cap:Nat) (W:World):Prop where
 s:g<W.heap.size
 c4:W.cell? ⟨g,4,none⟩=some (.slice (some ⟨b,0,none⟩) n cap)
theorem tP.below{b n cap:Nat}(h:tP g b n cap w)(hb:Below w.heap.size w w'):tP g b n cap w':=⟨Nat.lt_of_lt_of_le h.s hb.size,(hb.cell (p:=⟨g,4,none⟩) h.s).trans h.c4⟩
theorem kh{l:List bE}:∀u∈l.flatMap bE.cells,u.oneCell'=true:=fun u e=>by obtain⟨m, -,d⟩:=List.mem_flatMap.1 e;have d:u∈ [Value.int .i64 m.f,Value.int .i64 m.t,Value.slice m.a m.b.length m.c]:=d;simp at d;rcases d with rfl | rfl | rfl<;>rfl
structure yJ (g b0 n cap i p bm lb:Nat) (f:Nat) (x:ax) (ia:Option Addr) (m ic:Nat) (ba:Option Addr) (bc:Nat) (W:World):Prop where
 s:g<W.heap.size
 c0:W.cell? ⟨g,0,none⟩=some (.slice (some ⟨b0,0,none⟩) n cap)
 k0:W.cell? ⟨b0,i,none⟩=some (.pointer (some ⟨p,0,none⟩))
 d0:W.cell? ⟨bm,0,none⟩=some (.int .i64 f)
 d1:W.cell? ⟨bm,1,none⟩=some (.int .i64 i)
 e0:W.cell? ⟨lb,0,none⟩=some (.int .i64 x.k)
 e1:W.cell? ⟨lb,1,none⟩=some (.int .i64 x.t)
 e2:W.cell? ⟨lb,2,none⟩=some (.int .i64 x.a)
 e3:W.cell? ⟨lb,3,none⟩=some (.int .i64 x.u)
 e4:W.cell? ⟨lb,4,none⟩=some (.int .i64 x.o)
 e5:W.cell? ⟨lb,5,none⟩=some (.bool x.y)
 e6:W.cell? ⟨lb,6,none⟩=some (.slice ia m ic)
 e7:W.cell? ⟨lb,7,none⟩=some (.slice ba x.b.length bc)
theorem yJ.below{k n cap i p e lb f:Nat}{x:ax}{c:Option Addr}{m a:Nat}{ba:Option Addr}{j:Nat}(h:yJ g k n cap i p e lb f x c m a ba j w)(hb:Below w.heap.size w w'):yJ g k n cap i p e lb f x c m a ba j w':=by
 have go:∀(b o:Nat) (v:Value),w.cell? ⟨b,o,none⟩=some v->w'.cell? ⟨b,o,none⟩=some v:=fun b o v d=>(hb.cell (p:=⟨b,o,none⟩) (cI d)).trans d
 exact⟨Nat.lt_of_lt_of_le h.s hb.size,go _ _ _ h.c0,go _ _ _ h.k0,go _ _ _ h.d0,go _ _ _ h.d1,go _ _ _ h.e0,go _ _ _ h.e1,go _ _ _ h.e2,go _ _ _ h.e3,go _ _ _ h.e4,go _ _ _ h.e5,go _ _ _ h.e6,go _ _ _ h.e7⟩
theorem gW.far{K p:Nat}{M:ay}{v:ax}{f:Option Addr}{d:Nat}{ms:List af}{ba:Option Addr}{i:Nat}(h:gW K w v f d ms ba i)(ho:∀k,M.own p k->k<K):g9 w p M v f d ms ba i:=by
 refine⟨h.letAt,fun _ c e a=> ?_,fun m j _ c e a=> ?_,fun _ c e a=> ?_⟩
 ·have g:=(own_lt h.own (show _=some c.block by rw[al,e];rfl)).1;have:=ho _ a;omega
 ·have g:=(own_lt (h.bs m j).2 (show _=some c.block by rw[al,e];rfl)).1;have:=ho _ a;omega
 ·have g:=(own_lt h.b (show _=some c.block by rw[al,e];rfl)).1;have:=ho _ a;omega
theorem iK:(Tryz.prog.info? 99).map (·.size)=some 3:=by kernel_rfl
set_option maxRecDepth 100000 in
set_option maxHeartbeats 4000000 in
theorem nu{N:ay}{p n f k:Nat}{x:ax}{R:aa}(h:aA w B g c G M)(he:∀q:Nat×ay,M.ps[c]? =some q->q.2.ps= [])(hk:G.bag[k]? =some ((f:Int),(i:Int),cG x))(hx:aO x=true)(hbl:G.bag.length<=2000)(hr:G.right=true)
 (hR:G.rs[i]? =some R)(hq:M.ps[i]? =some (p,N))(hok:R.Ok)(hnw:R.news.length<=999980000)(hou:R.out.length<=999998000)
 (hcw:Cw { G with bag:=G.bag.take k++G.bag.drop (k+1),rs:=G.rs.set i (R.handle f x) } i n (R.handle f x)):
  Calls Tryz.prog 59 #[.pointer (some ⟨g,0,none⟩), .int .i64 k] w fun e w'=>e= .returned (.tuple #[])/\∃M' N',aA w' B g i (({ G with bag:=G.bag.take k++G.bag.drop (k+1),rs:=G.rs.set i (R.handle f x) }:ac).coll i (R.handle f x)) M'/\M'.ps[i]? =some (p,N')/\N'.ps= []/\Below B w w':=by
 have hlen:M.ms.length=G.bag.length:=by rw[<-h.ct.bq];simp
 have hkl:k<G.bag.length:=(List.getElem?_eq_some_iff.1 hk).1;obtain⟨m,hm⟩:∃m,M.ms[k]? =some m:=⟨_,List.getElem?_eq_getElem (by omega)⟩
 have hmp:m.p=((f:Int),(i:Int),cG x):=by
  have A:(M.ms.map bE.p)[k]? =some ((f:Int),(i:Int),cG x):=by rw[h.ct.bq];exact hk
  rw[List.getElem?_map,hm]at A;injection A
 obtain⟨mf,mt,ma,mc,mb⟩:=m;have e1:mf=(f:Int):=congrArg (·.1) hmp;have e2:mt=(i:Int):=congrArg (·.2.1) hmp;have e3:mb=cG x:=congrArg (·.2.2) hmp;subst e1 e2 e3;obtain⟨b,hb1⟩:∃b,M.ra 4=some ⟨b,0,none⟩:=by obtain⟨b,d,e⟩:=lX h (i:=4) (by omega) (by show 0<M.ms.length;omega);injection e with e;exact⟨b,e⟩
 obtain⟨L,hL⟩:∃L,L=M.ms.length:=⟨_,rfl⟩
 have c4:w.cell? ⟨g,4,none⟩=some (.slice (some ⟨b,0,none⟩) L (M.rc 4)):=by rw[<-hb1,hL];exact h.cl (i:=4) (by omega)
 have hrow:=h.rows 4 (by omega);have X:SlAt w w.heap.size 3 (some ⟨b,0,none⟩) L (M.rc 4) (M.ms.flatMap bE.cells):=by obtain⟨a9,c9,e9,A⟩:=SlAt.ofOwns hrow;have e9:Value.slice (M.ra 4) M.ms.length (M.rc 4)=_:=e9;injection e9 with e1 _ e3;subst e1 e3;rw[<-hb1,hL];exact A
 have hcs:∀j,j<M.ms.length*3->w.cell? ⟨b,j,none⟩=(M.ms.flatMap bE.cells)[j]? :=fun j hj=>by obtain⟨b9,o9,e9, -,A⟩:=X.hat (by rw[X.hlen];omega);injection e9 with e9;injection e9 with e9 e10;subst e9 e10;have:=A j (by rw[X.hlen,hL];exact hj);simpa using this
 obtain⟨z0,z1,z2⟩:=kO _ _ _ hm;have q0:w.cell? ⟨b,k*3,none⟩=some (.int .i64 f):=(hcs _ (by omega)).trans z0;have q1:w.cell? ⟨b,k*3+1,none⟩=some (.int .i64 i):=(hcs _ (by omega)).trans z1;have q2:w.cell? ⟨b,k*3+2,none⟩=some (.slice ma (cG x).length mc):=(hcs _ (by omega)).trans z2;have hk0:(0:Int)<=(k:Int):=by omega
 have hk1:(k:Int)<(L:Int):=by omega
 have hLb:L<=2000:=by omega
 have hkL:k<L:=by omega
 have hcap:L<=M.rc 4:=X.hle;obtain⟨d,hcp⟩:∃d,d=M.rc 4:=⟨_,rfl⟩
 rw[<-hcp]at c4 X hcap;have H:=Hh h;have HE:=Hh he;have HM:=Hh hm;have HLQ:=Hh hL;have HLEN:=Hh hlen;have HSL:=Hh X;have HCW:=Hh hcw;have HQ:=Hh hq;have HR:=Hh hR;have HOK:=Hh hok;have HX:=Hh hx;have HRT:=Hh hr;have HBY:=Hh (h.ct.bb _ (List.mem_of_getElem? hm));have HB1:=Hh hb1;clear h he hk hm hmp hlen hL X hcs z0 z1 z2 hrow hcw hq hR hok hx hr hb1 hkl hbl hcp;obtain⟨iM,jM,jM0,jM1,jM2⟩:=info_parts kr;go_enter Tryz.func59,Tryz.ntmps59
 go_wp2_with fail;obtain⟨V,hV⟩:∃V,V=w.alloc (.cells #[.int .i64 f, .int .i64 i, .slice ma (cG x).length mc] 99):=⟨_,rfl⟩
 rw[<-hV];have O:Below w.heap.size w V:=by rw[hV];exact(Below.refl _ _).alloc (Nat.le_refl _) _
 have hrV:V.heap[w.heap.size]? =some (.cells #[.int .i64 f, .int .i64 i, .slice ma (cG x).length mc] 99 (0,0)):=by rw[hV];exact heap_alloc_new w _
 have HV:=Hh (H.out.below O);have HBV:=Hh O;have HRV:=Hh hrV;have HSV:=Hh (show tP g b L d V from⟨HV.out.lt (x:= .g) rfl,(O.cell (p:=⟨g,4,none⟩) (H.out.lt (x:= .g) rfl)).trans c4⟩);obtain⟨z,hk1'⟩:∃z:Nat,z=k+1:=⟨_,rfl⟩
 have wk:IntKind.i64.wrap ((k:Int)+1)=(z:Int):=by rw[IntWalk.i64_in _ (by omega)];omega
 have hrun1:∀w':World,(Instr.slice 64 (.slice (some ⟨b,0,none⟩) L d) none (some (.int .i64 k)) none).run Tryz.prog w'= .ok (.slice (some ⟨b,0,none⟩) k d) w':=fun w'=>mK Tryz.underlying64 iK (some ⟨b,0,none⟩) L d .i64 k (by omega) w'
 obtain⟨sa,hsa⟩:∃sa,sa=(if d=z then some ⟨b,0,none⟩ else(some (⟨b,0,none⟩:Addr)).map (·.add (z*3))):=⟨_,rfl⟩
 have hrun2:∀w':World,(Instr.slice 64 (.slice (some ⟨b,0,none⟩) L d) (some (.int .i64 z)) none none).run Tryz.prog w'= .ok (.slice sa (L-z) (d-z)) w':=fun w'=>by rw[hsa];exact mL Tryz.underlying64 iK (some ⟨b,0,none⟩) L d .i64 z (by omega) w'
 have HS1:=Hh (show SlAt w w.heap.size 3 (some ⟨b,0,none⟩) k d ((M.ms.take k).flatMap bE.cells) by rw[<-jy];exact HSL.out.upto (by omega) (by omega) (Nat.le_refl _))
 have HS2:=Hh (show SlAt w w.heap.size 3 sa (L-z) (d-z) ((M.ms.drop z).flatMap bE.cells) by rw[<-jz,hsa];exact HSL.out.from_ (by omega))
 have HK1:=Hh hk1';clear hV O hrV hsa hk1' c4 q0 q1 q2 hcap;go_wp2_with fail;refine sQ (S:=tP g b L d) 19 ?_;intro Y v;have s:tP g b L d Y:=HSV.out.below v;refine cK 0 14 s ?_;refine cK 2 16 s ?_;refine cK 6 20 s ?_;refine cK 9 23 s ?_;refine cK 13 27 s ?_;refine cK 3 17 s ?_;refine cK 10 24 s ?_;refine xo 14 28 (.int .i64 z) s ?_;refine cK 4 18 s ?_;refine cK 11 25 s ?_;refine cK 5 19 s ?_;refine cK 12 26 s ?_;refine xo 7 21 (.slice (some ⟨b,0,none⟩) k d) s ?_;refine xo 15 29 (.slice sa (L-z) (d-z)) s ?_;clear hrun1 hrun2 wk;refine nV 1 ?_;go_simp;obtain⟨U,hU⟩:∃U,U=Y.alloc (.cells #[] 99):=⟨_,rfl⟩
 rw[<-hU];have hbU:Below Y.heap.size Y U:=by rw[hU];exact(Below.refl _ _).alloc (Nat.le_refl _) _
 have hsU:U.heap.size=Y.heap.size+1:=by rw[hU];simp
 have hmade:U.ownsRow Y.heap.size 99 3 (.slice (some ⟨Y.heap.size,0,none⟩) 0 0) 0 []:=by rw[hU];exact ek Y Y.heap.size 3 (Nat.le_refl _) 99
 have hwY:w.heap.size<=Y.heap.size:=Nat.le_trans HBV.out.size v.size;have hbY:Below w.heap.size w Y:=HBV.out.trans (v.mono HBV.out.size);have hbwU:Below w.heap.size w U:=hbY.trans (hbU.mono hwY);refine⟨s.below hbU,?_⟩;have HBY1:=Hh hbY;have HS9:=Hh s;clear s hU;refine nV 8 ?_;refine aS U (.tmp 15) (.tmp 21) 64 rfl Y.heap.size 99 iM (.agg #[.int .i64 0, .int .i64 0, .slice none 0 0]) 3 40 Tryz.underlying64 jM jM0 jM1 jM2 rfl (by decide) (.slice (some ⟨Y.heap.size,0,none⟩) 0 0) 0 [] rfl hmade U.heap.size (some ⟨b,0,none⟩) k d ((M.ms.take k).flatMap bE.cells) rfl ((HS1.out.below hbwU (Nat.le_refl _)).mono hbwU.size) kh (by unfold maxLen;omega) (by omega) (by omega) ?_;intro a8 c8 W8 o8 g8 hat8;simp only[Nat.zero_add,List.nil_append]at o8;have hb8:Below Y.heap.size Y W8:=by refine hbU.trans ⟨g8.os,g8.tape,g8.output,g8.size,fun k hk=>g8.block k (by omega) (fun e=> ?_)⟩;have e:some Y.heap.size=some k:=e.symm;injection e with e;omega
 have hb8w:=hbY.trans (hb8.mono hwY);have hS8:=HS9.out.below hb8;refine⟨hS8,?_⟩;simp only[Nat.zero_add];refine nV 16 ?_;have hmk:(M.ms.drop z).length=L-z:=by rw[List.length_drop,HLQ.out]
 refine aS W8 (.tmp 22) (.tmp 29) 64 rfl Y.heap.size 99 iM (.agg #[.int .i64 0, .int .i64 0, .slice none 0 0]) 3 40 Tryz.underlying64 jM jM0 jM1 jM2 rfl (by decide) (.slice a8 k c8) k ((M.ms.take k).flatMap bE.cells) rfl o8 W8.heap.size sa (L-z) (d-z) ((M.ms.drop z).flatMap bE.cells) rfl ((HS2.out.below hb8w (Nat.le_refl _)).mono hb8w.size) kh (by unfold maxLen;omega) (by omega) (by have:=g8.size;omega) ?_;intro a16 c16 W16 o16 g16 hat16;have hb16:Below Y.heap.size Y W16:=by refine hb8.trans ⟨g16.os,g16.tape,g16.output,g16.size,fun k hk=>g16.block k (by have:=hb8.size;omega) (fun e=> ?_)⟩;have:=(own_lt o8 e.symm).1;omega
 have r:Below V.heap.size V W16:=v.trans (hb16.mono v.size);have J:=HS9.out.below hb16;have hn16:(M.ms.take k++M.ms.drop z).length=k+(L-z):=by rw[List.length_append,hmk,List.length_take,<-HLQ.out];omega
 have T:=HV.out.setBag r (ms':=M.ms.take k++M.ms.drop z) (fun m hm=>by
  rcases List.mem_append.1 hm with A | A
  ·exact List.mem_of_mem_take A
  ·exact List.mem_of_mem_drop A) hn16 (by rw[List.flatMap_append];exact World.ownsRow.mono o16 v.size)
 have hbg:(M.ms.take k++M.ms.drop z).map bE.p=G.bag.take k++G.bag.drop (k+1):=by rw[List.map_append,List.map_take,List.map_drop,HV.out.ct.bq,HK1.out]
 rw[hbg]at T;refine⟨J,?_⟩;go_simp;refine cK 17 31 J ?_;refine cK 18 32 J ?_;refine yq ?_;refine aj 64 (.tmp 32) (.tmp 30) rfl g 4 (.slice a16 (k+(L-z)) c16) _ rfl rfl rfl gL J.c4 ((HV.out.below r).f 4) ?_;obtain⟨C,I⟩:∃C,C=W16.setCell ⟨g,4,none⟩ (.slice a16 (k+(L-z)) c16):=⟨_,rfl⟩
 rw[<-I]at T ⊢;obtain⟨M1,hM1⟩:∃M1:bG,M1={ M with ra:=fB M.ra 4 a16,rc:=fB M.rc 4 c16,ms:=M.ms.take k++M.ms.drop z }:=⟨_,rfl⟩
 obtain⟨G1,hG1⟩:∃G1:ac,G1={ G with bag:=G.bag.take k++G.bag.drop (k+1) }:=⟨_,rfl⟩
 rw[<-hM1,<-hG1]at T;have hwg:w.heap.size≠g:=fun e=>by have:=H.out.lt (x:= .g) rfl;omega
 have D:∀x,x≠g->C.heap[x]? =W16.heap[x]? :=fun x hx=>by rw[I];exact Below.heap_setCell _ _ _ x hx
 have hS17:tP g b L d W16:=J;have hrow17:C.heap[w.heap.size]? =some (.cells #[.int .i64 f, .int .i64 i, .slice ma (cG x).length mc] 99 (0,0)):=(D _ hwg).trans ((r.block _ (Array.getElem?_eq_some_iff.1 HRV.out).1).trans HRV.out);have HB17:=Hh (show Below B w C from(HBV.out.mono H.out.bs).trans ((r.mono HV.out.bs).trans (by rw[I];exact bQ (H.out.inn .g g rfl) _)));have HBY17:=Hh (show cS C ma mc (cG x) by rw[I];exact cS.store (OwnBs.below (OwnBs.below HBY.out HBV.out) r) (HV.out.below r).row fC.2.2.1)
 have HG17:=Hh T;have l:=Hh hrow17;have HQ1:=Hh (show M1.ps[i]? =some (p,N) by rw[hM1];exact HQ.out);have HE1:=Hh (show ∀q:Nat×ay,M1.ps[c]? =some q->q.2.ps= [] by rw[hM1];exact HE.out);have HR1:=Hh (show G1.rs[i]? =some R/\G1.right=true by rw[hG1];exact⟨HR.out,HRT.out⟩);have HCW1:=Hh (show Cw { G1 with rs:=G1.rs.set i (R.handle f x) } i n (R.handle f x) by rw[hG1];exact HCW.out);have HGR:=Hh (show { G1 with rs:=G1.rs.set i (R.handle f x) }=({ G with bag:=G.bag.take k++G.bag.drop (k+1),rs:=G.rs.set i (R.handle f x) }:ac) by rw[hG1]);have HWG:=Hh hwg;have hD17:C.heap.size=W16.heap.size:=by rw[I];simp
 clear T hG1 hM1 I hS17 hrow17 D hwg J hn16 hbg hb16 r hmk o16 g16 hat16 o8 g8 hat8 hb8 hb8w hS8 hmade hbU hbwU hbY hwY hsU v;obtain⟨bm,hbm⟩:∃bm,bm=w.heap.size:=⟨_,rfl⟩
 rw[<-hbm]at l HWG ⊢;have d0:C.cell? ⟨bm,0,none⟩=some (.int .i64 f):=cell_of_row _ _ 0 _ _ _ l.out;have d1:C.cell? ⟨bm,1,none⟩=some (.int .i64 i):=cell_of_row _ _ 1 _ _ _ l.out;have d2:C.cell? ⟨bm,2,none⟩=some (.slice ma (cG x).length mc):=cell_of_row _ _ 2 _ _ _ l.out;have HBM:=Hh hbm;clear hbm hD17;go_wp2_with fail;refine(sm (cG x) ma (cG x).length mc C HBY17.out.1).mono ?_;intro e F hrd;have hread:mW (fd (cG x))=(0,some x):=by have A:=jH HX.out [];rw[List.append_nil]at A;rw[A];rfl
 unfold tN at hrd;rw[hread]at hrd;obtain⟨hb18,ia,ic,ms,ba,bc,rfl,hlo⟩:=hrd;have W:=Hh hb18;have HLO:=Hh hlo;clear hb18 hlo hread d2;have d0:F.cell? ⟨bm,0,none⟩=some (.int .i64 f):=cell_of_row _ _ 0 _ _ _ ((W.out.block _ (Array.getElem?_eq_some_iff.1 l.out).1).trans l.out);have d1:F.cell? ⟨bm,1,none⟩=some (.int .i64 i):=cell_of_row _ _ 1 _ _ _ ((W.out.block _ (Array.getElem?_eq_some_iff.1 l.out).1).trans l.out);have HG18:=Hh (HG17.out.below W.out);obtain⟨V,hV⟩:∃V,V=F.alloc (.cells (aF x ia ms.length ic ba bc) 32):=⟨_,rfl⟩
 have O:Below F.heap.size F V:=by rw[hV];exact(Below.refl _ _).alloc (Nat.le_refl _) _
 have hrV:V.heap[F.heap.size]? =some (.cells (aF x ia ms.length ic ba bc) 32 (0,0)):=by rw[hV];exact heap_alloc_new F _
 have hlc:F.alloc (.cells (aF x ia ms.length ic ba bc) 32)=F.alloc (.cells #[.int .i64 x.k, .int .i64 x.t, .int .i64 x.a, .int .i64 x.u, .int .i64 x.o, .bool x.y, .slice ia ms.length ic, .slice ba x.b.length bc] 32):=rfl;have HV9:=Hh (hV.trans hlc);have HGV:=Hh (HG18.out.below O);have HRV9:=Hh hrV;have HBV9:=Hh (W.out.trans (O.mono W.out.size));have HLV:=Hh (HLO.out.moved fun k h1 h2=>O.block k h2);obtain⟨lb,hlb⟩:∃lb,lb=F.heap.size:=⟨_,rfl⟩
 rw[<-hlb]at HRV9;have HLB:=Hh hlb;clear hV O hrV hlc d0 d1;go_upto_region 3 with fail
 rw[<-HV9.out,<-HLB.out];clear hlb;have cr:V.cell? ⟨g,8,none⟩=some (.bool true):=by rw[<-HR1.out.2];exact HGV.out.cr
 have fr:=HGV.out.f 8;obtain⟨V2,hV2⟩:∃V2,V2=V.setCell ⟨g,8,none⟩ (.bool true):=⟨_,rfl⟩
 have hg2:aA V2 B g c G1 M1:=by
  have h1:=HGV.out.setRight true;have e:({ G1 with right:=true }:ac)=G1:=by rw[<-HR1.out.2]
  rw[e]at h1;rw[hV2];exact h1
 have D:∀x,x≠g->V2.heap[x]? =V.heap[x]? :=fun x hx=>by rw[hV2];exact Below.heap_setCell _ _ _ x hx
 have hbg18:g<C.heap.size:=HG17.out.lt (x:= .g) rfl;have hlbg:lb≠g:=fun e=>by have A:=HGV.out.row;rw[<-e,HRV9.out]at A;injection A with A;injection A with _ A _;exact absurd A (by decide)
 have HRV2:=Hh ((D _ hlbg).trans HRV9.out);have P:=Hh ((D _ HWG.out).trans ((HBV9.out.block _ (Array.getElem?_eq_some_iff.1 l.out).1).trans l.out));have HL2:=Hh (HLV.out.moved fun k h1 h2=>D k (by omega));have HG2:=Hh hg2;have HB2:=Hh (show Below B w V2 from HB17.out.trans ((HBV9.out.mono HG17.out.bs).trans (by rw[hV2];exact bQ (HGV.out.inn .g g rfl) _)));have HV2:=Hh hV2;clear hV2 hg2 D hbg18 hlbg;go_wp2_with fail;rw[<-HV2.out];obtain⟨b0,hb1,hb2, -⟩:=HG2.out.ptr HQ1.out;have hps:M1.ps.length=n:=by rw[HG2.out.rl];have A:=HCW1.out.rl;simpa using A
 obtain⟨e0,e1,e2,e3,e4,e5,e6,e7⟩:=aq HRV2.out;have HS2:=Hh (show yJ g b0 n (M1.rc 0) i p bm lb f x ia ms.length ic ba bc V2 from⟨HG2.out.lt (x:= .g) rfl,by rw[<-hb1,<-hps];exact HG2.out.cl (i:=0) (by omega),hb2,cell_of_row _ _ 0 _ _ _ P.out,cell_of_row _ _ 1 _ _ _ P.out,e0,e1,e2,e3,e4,e5,e6,e7⟩);have hin:(i:Int)<(n:Int):=by have A:=(List.getElem?_eq_some_iff.1 HQ1.out).1;omega
 have hi0:(0:Int)<=(i:Int):=by omega
 clear hb2 e0 e1 e2 e3 e4 e5 e6 e7 cr fr;refine sQ (S:=yJ g b0 n (M1.rc 0) i p bm lb f x ia ms.length ic ba bc) 11 ?_;intro V3 v;have s:yJ g b0 n (M1.rc 0) i p bm lb f x ia ms.length ic ba bc V3:=HS2.out.below v;refine cK 0 50 s ?_;refine cK 4 54 s ?_;refine cK 8 58 s ?_;refine zm 10 60 (.agg (aF x ia ms.length ic ba bc)) s ?_;refine cK 1 51 s ?_;refine cK 5 55 s ?_;refine cK 9 59 s ?_;refine cK 2 52 s ?_;refine cK 3 53 s ?_;refine cK 6 56 s ?_;refine cK 7 57 s ?_;refine yq ?_;go_simp;have HG3:=Hh ((HG2.out.below v).cur HE1.out i);have HL3:=Hh (HL2.out.moved fun k h1 h2=>v.block k h2);have HB3:=Hh (HB2.out.trans (v.mono HG2.out.bs));have hown:∀k,N.own p k->k<w.heap.size:=fun k hk=>H.out.lt (x:= .raft i) ⟨_,HQ.out,hk⟩
 have hw17:w.heap.size<=C.heap.size:=HB17.out.size;have hml:ms.length<=100000:=by have A:=congrArg List.length HL3.out.its;rw[List.length_map]at A;have h8:=(aH HX.out).2.2.2.2.2.1;have h8:x.its.length<=16:=h8;omega
 have Z:V3.heap[bm]? =some (.cells #[.int .i64 f, .int .i64 i, .slice ma (cG x).length mc] 99 (0,0)):=(v.block _ (Array.getElem?_eq_some_iff.1 P.out).1).trans P.out;refine(rY p R N f x ia ic ms ba bc HOK.out hml hnw hou V3 (HG3.out.rf i R (p,N) HR1.out.1 HQ1.out) (HL3.out.far fun k hk=>Nat.lt_of_lt_of_le (hown k hk) hw17)).mono ?_;rintro e w4 ⟨rfl,N4,hr4,ht4⟩;have hg4:=HG3.out.putRaft HR1.out.1 HQ1.out hr4 ht4;have hrow4:w4.heap[bm]? =some (.cells #[.int .i64 f, .int .i64 i, .slice ma (cG x).length mc] 99 (0,0)):=(ht4.block bm (Array.getElem?_eq_some_iff.1 Z).1 (fun A=>by have:=hown bm A;have:=HBM.out;omega)).trans Z;have HB4:=Hh (HB3.out.trans (ht4.below (fun k hk=>HG3.out.inn (.raft i) k ⟨_,HQ1.out,hk⟩) HG3.out.bs));have HG4:=Hh hg4;have HQ4:=Hh (show({ M1 with ps:=M1.ps.set i (p,N4) }:bG).ps[i]? =some (p,N4) by show(M1.ps.set i _)[i]? =_;rw[aZ (List.getElem?_eq_some_iff.1 HQ1.out).1,if_pos rfl]);have d1:w4.cell? ⟨bm,1,none⟩=some (.int .i64 i):=cell_of_row _ _ 1 _ _ _ hrow4;clear hr4 ht4 hg4 Z hrow4 s v hml hown;go_wp2_with fail;refine(eP HG4.out HQ4.out HCW1.out).mono ?_;rintro e w5 ⟨rfl,M5,N5,h5,q5,n5,b5⟩;have H5:=Hh h5;have HB5:=Hh (HB4.out.trans b5);clear h5 b5;go_wp2_with fail;go_end0;exact⟨rfl,M5,N5,by rw[<-HGR.out];exact H5.out,q5,n5,HB5.out⟩
end
end Go.Proofs.YtogcnfhmcpkdcaaGreat
