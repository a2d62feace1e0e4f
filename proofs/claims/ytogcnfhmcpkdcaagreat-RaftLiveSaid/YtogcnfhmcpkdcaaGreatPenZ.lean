/-
slices.Backward at bytes: the closure that it hands back tells all elements, the last first, to every loop body that leaves the elements' block and the box as t
-/
import Derived.Test.YtogcnfhmcpkdcaaGreatEyeM
import Derived.Test.YtogcnfhmcpkdcaaGreatPenLaw
import Derived.Test.YtogcnfhmcpkdcaaGreatHeldM
import Derived.Test.YtogcnfhmcpkdcaaGreatFieldM
import Derived.Test.YtogcnfhmcpkdcaaGreatSlMem
import Derived.RangeFuncBox
import Derived.RangeFuncLeaves
import Derived.Shelf.Abstract
import Derived.OwnWalkIn
import Derived.TacticsInMore
import Derived.LoopNIn
import Derived.LoopIn
import Derived.Deep.AppendLies
import Derived.Deep.RegionHeld3
import Derived.Deep.RegionLaw
import Derived.Deep.DrawnRows
import Derived.Deep.DeepCutAuto
import Derived.Deep.CutRange
import Derived.Laws.Cover3
import Derived.Deep.MidRow
import Derived.Laws.Tables
set_option maxRecDepth 100000
set_option maxHeartbeats 4000000
namespace Go.Proofs.YtogcnfhmcpkdcaaGreat
open Go.RowKit Go.Shelf
set_option linter.unusedVariables false
attribute [local go_sem] Oper.semAt_some
def pX(S:Nat->Prop)(A B:World):Prop:=∀k,S k->B.heap[k]? =A.heap[k]?
def yC(l:List UInt8)(k:Nat):Nat×UInt8:=(l.length-1-k,l.getD (l.length-1-k) 0)
def gV(l:List UInt8)(k:Nat):List (Nat×UInt8):=(List.range k).map (yC l)
theorem pe(l:List UInt8)(k:Nat):gV l (k+1)=gV l k++ [yC l k]:=by simp[gV,List.range_succ]
theorem ry(l:List UInt8)(k:Nat):(gV l k).length=k:=by simp[gV]
theorem vW(l:List UInt8):(gV l l.length).map (·.2)=l.reverse:=by
 apply List.ext_getElem
 ·simp[gV]
 ·intro i a b;simp[gV]at a;simp[gV,yC,List.getD,List.getElem?_eq_getElem (show l.length-1-i<l.length by omega)]
theorem pT(F:Fence)(n:Nat)(h7:F.fn 102)(hro:F.round=none)(hn:1<=n)(y Bs:Nat)(S:Nat->Prop)(l:List UInt8)(a:Option Addr)(c:Nat)(J Jx:List (Nat×UInt8)->World->Prop)
 (O:∀pre x W,J pre W->pre.length<l.length->YieldAt F (n-1) Tryz.prog y #[.int .i64 (x.1:Int), .int .u8 (x.2.toNat:Int)] W fun e W'=>(e= .returned (.bool true)/\J (pre++ [x]) W'/\pX S W W')\/(e= .returned (.bool false)/\Jx (pre++ [x]) W'))
 (W:World)(hBs:W.cell? ⟨Bs,0,none⟩=some (.slice a l.length c))(hSB:S Bs)(hbs:aM W W.heap.size a l.length c l)(hSb:∀b o,a=some ⟨b,o,none⟩->S b)(h0:J [] W):
  CallsIn F n Tryz.prog 102 #[.func (.yield y) #[] #[], .pointer (some ⟨Bs,0,none⟩)] W fun e W'=>(∃v,e= .returned v)/\
   ((∃ys,ys=gV l l.length/\J ys W')\/(∃pre,(∃k,k<=l.length/\pre=gV l k)/\Jx pre W')):=by
 have N:=hbs.hbig;refine callsIn_of_wp Tryz.func102 rfl h7 ?_ hro;simp only[Tryz.ntmps102,List.size_toArray,List.length_cons,List.length_nil,Nat.reduceAdd,Nat.reduceSub,Array.replicate_succ,Array.replicate_zero,List.push_toArray,List.append_toArray,List.nil_append,List.cons_append]
 gi_wp2
 gi_loopw [3] (fun i wr=>∃k:Nat,k<=l.length/\i= .int .i64 ((l.length:Int)-1-k)/\J (gV l k) wr/\pX S W wr)
  (fun i _=>(intOf i+1).toNat)
 case atStart=>exact⟨0,Nat.zero_le _,by simp,h0,fun _ _=>rfl⟩
 case round=>
  obtain⟨k,U,rfl,f,d⟩:=hrel;have M:wr.cell? ⟨Bs,0,none⟩=some (.slice a l.length c):=(World.cell?_of_block (d Bs hSB)).trans hBs;by_cases s:k<l.length
  ·obtain⟨b,o,rfl,V,A⟩:=hbs.hat (by omega);have z:wr.cell? ⟨b,o+(l.length-1-k),none⟩=some (.int .u8 ((yC l k).2.toNat:Int)):=(World.cell?_of_block (a:=⟨b,o+(l.length-1-k),none⟩) (d b (hSb b o rfl))).trans (A _ (by omega));obtain⟨fn,C,q,H,D,P⟩:=O _ (yC l k) wr f (by rw[ry];exact s);have h:(yC l k).1=l.length-1-k:=rfl;rw[h]at D;obtain⟨m,r⟩:∃m,m=l.length-1-k:=⟨_,rfl⟩
   have g:(l.length:Int)-1-k=(m:Int):=by omega
   rw[<-r]at z D;rw[g];have L:(m:Int)<(l.length:Int):=by omega
   have I:=Hh r;clear r h g;have HC:=Hh A;have R:=Hh d;have T:=Hh hbs;clear A d hbs hSb
   gi_wp2
   refine P.mono ?_;rintro e X (⟨rfl,B,w⟩ | ⟨rfl,p⟩)
   ·gi_wp2
    go_roundw
    case rel=>exact⟨k+1,by omega,by have:=I.out;congr 1;omega,by rw[pe];exact B,fun j G=>(w j G).trans (R.out j G)⟩
    case measure=>have:=I.out;simp[intOf];try omega
   ·gi_wp2
    refine bodyPost_ret (results_none rfl _ _ _) rfl ?_;exact⟨⟨_,rfl⟩, .inr ⟨_,⟨k+1,by omega,(pe _ _).symm⟩,p⟩⟩
  ·have t:k=l.length:=by omega
   rw[show(l.length:Int)-1-k= -1 by omega];rw[t]at f
   gi_wp2
   go_end0;exact⟨⟨_,rfl⟩, .inl ⟨_,rfl,f⟩⟩
theorem nN(F:Fence)(n:Nat)(h7:F.fn 102)(hro:F.round=none)(hn:1<=n)(Bs:Nat)(S:Nat->Prop)(l:List UInt8)(a:Option Addr)(c:Nat)(w:World)(hBs:Bs<w.heap.size)
 (d:w.cell? ⟨Bs,0,none⟩=some (.slice a l.length c))(hSB:S Bs)(hbs:aM w w.heap.size a l.length c l)(hSb:∀b o,a=some ⟨b,o,none⟩->S b):
  SeqStopsK F n Tryz.prog 102 #[.pointer (some ⟨Bs,0,none⟩)] (fun x:Nat×UInt8=>#[Value.int .i64 (x.1:Int),Value.int .u8 (x.2.toNat:Int)]) (pX S) (fun ys=>ys=gV l l.length)
   (fun pre=>∃k,k<=l.length/\pre=gV l k) l.length w:=fun y J g W hW _ _ e f=>
 pT F n h7 hro hn y Bs S l a c J g e W ((hW.cell (p:=⟨Bs,0,none⟩) hBs).trans d) hSB ((hbs.below hW (Nat.le_refl _)).mono hW.size) hSb f
end Go.Proofs.YtogcnfhmcpkdcaaGreat
namespace Go.Proofs.YtogcnfhmcpkdcaaGreat
open Go.RowKit
set_option linter.unusedVariables false
theorem eN.round{y T:TypeId}{q:Nat}{v:Value}{w W:World}{u:Value}{xs L:List UInt8}{f:Value}(h:eN y q v w W u xs L f)(hq:q<w.heap.size)(hs:w.heap.size<W.heap.size)(b2 B:Nat)(hb2:b2<W.heap.size)(hb3:w.heap.size<=b2)(hv:f.ownBlock≠some b2)
 (c:UInt8){g cap:Nat}{w1:World}(i:w1.ownsRow (q+1) y 1 (.slice (some ⟨g,0,none⟩) (L.length+1) cap) (L.length+1) (L.map bv++ [bv c]))(hgrow:(W.alloc (.cells #[bv c] T)).drew.grownBy w1 f.ownBlock)(hat:f.ownBlock=some g\/g=W.heap.size+1):
  KeepsFrom B W (w1.setCell ⟨q,0,none⟩ (.slice (some ⟨g,0,none⟩) (L.length+1) cap))/\
  pX (fun k=>k=b2\/u.ownBlock=some k) W (w1.setCell ⟨q,0,none⟩ (.slice (some ⟨g,0,none⟩) (L.length+1) cap))/\
  W.heap.size<=(w1.setCell ⟨q,0,none⟩ (.slice (some ⟨g,0,none⟩) (L.length+1) cap)).heap.size/\
  ∃v',eN y q v w (w1.setCell ⟨q,0,none⟩ (.slice (some ⟨g,0,none⟩) (L.length+1) cap)) u xs (L++ [c]) v'/\v'.ownBlock≠some b2:=by
 have m:∀g,u.ownBlock=some g->g<W.heap.size:=fun g F=>(own_lt h.row F).2
 have t:Below W.heap.size W (W.alloc (.cells #[bv c] T)).drew:=((Below.refl _ W).alloc (Nat.le_refl _) _).drew;have n:=hgrow.size;simp at n;have D:=h.pen.below t;have d:∀k,k≠q->(w1.setCell ⟨q,0,none⟩ (.slice (some ⟨g,0,none⟩) (L.length+1) cap)).heap[k]? =w1.heap[k]? :=fun k b=>Below.heap_setCell _ _ _ k b
 have a:∀k,k<W.heap.size->k≠q->f.ownBlock≠some k->(w1.setCell ⟨q,0,none⟩ (.slice (some ⟨g,0,none⟩) (L.length+1) cap)).heap[k]? =W.heap[k]? :=fun k b r p=>(d k r).trans ((hgrow.block k (by simp;omega) (fun e=>p e.symm)).trans (t.block k b))
 refine⟨⟨by simp;omega,fun k o H b z=> ?_⟩,fun k b=> ?_,by simp;omega,_,h.append hq hs m t (by simp) i hgrow hat,?_⟩
 ·have s:=(Array.getElem?_eq_some_iff.1 b).1;refine(a k s ?_ ?_).trans b
  ·rintro rfl;obtain⟨G,j,l⟩:=cells_of_cell h.pen.cell;rw[b]at j;cases j;rw[z]at l;cases l
  ·intro e;rcases h.pen.own.2 with⟨x,_⟩ | ⟨I,C,cur,x,_,A,_⟩
   ·rw[x]at e;simp[Value.ownBlock]at e
   ·rw[x]at e;simp[Value.ownBlock]at e;subst e;rw[b]at A;cases A;cases z
 ·rcases b with rfl | b
  ·exact a _ hb2 (by omega) hv
  ·have:=own_lt h.row b;exact a k this.2 (by omega) (fun e=>(h.far k e).2 b)
 ·intro e;simp[Value.ownBlock]at e;subst e;rcases hat with e | e
  ·exact hv e
  ·omega
set_option linter.unusedSimpArgs false
attribute [local go_sem] Oper.semAt_some
theorem kK(q n:Nat)(hn64:n<18446744073709551616)(v:Value)(l:List UInt8)(hl:l.length<=1000000)(w:World)(h:cy 5 w q v l):
  Calls Tryz.prog 35 #[.pointer (some ⟨q,0,none⟩), .int .u64 n] w fun e w'=>e= .returned (.tuple #[])/\∃v',cy 5 w' q v' (l++aC n)/\cM q v w w' v':=by
 obtain⟨i0,hi,hz0,hz1,hz2⟩:=info_parts pI;refine callsIn_wide.1 (callsIn_of_wp_marks (F:=Fence.wide) (n:=3) Tryz.func35 rfl trivial (wpIn_wide.2 ?_) rfl);simp only[Tryz.ntmps35,List.size_toArray,List.length_cons,List.length_nil,Nat.reduceAdd,Nat.reduceSub,Array.replicate_succ,Array.replicate_zero,List.push_toArray,List.append_toArray,List.nil_append,List.cons_append];have H:=Hh h;clear h;go_wp2;go_loopw [1,4] (fun nv lv wr=>∃(m:Nat) (f:List UInt8),nv= .int .u64 m/\f++le m=le n/\m<18446744073709551616/\wr.ownsRow (w.heap.size+1) 5 1 lv f.length (f.map bv)/\Below (w.heap.size+1) (w.alloc (.cells #[.pointer (some ⟨q,0,none⟩)] 107)) wr)
  (fun nv _ _=>(intOf nv).toNat)
 case atStart=>exact⟨n,[],rfl,rfl,hn64,⟨rfl, .inl ⟨rfl,rfl⟩⟩,Below.refl _ _⟩
 case round=>
  obtain⟨m,f,rfl,hxs,hm,M,N⟩:=hrel;have hsz:=N.size;simp only[World.size_alloc]at hsz;have hbx:wr.cell? ⟨w.heap.size,0,none⟩=some (.pointer (some ⟨q,0,none⟩)):=by rw[N.cell (p:=⟨w.heap.size,0,none⟩) (by simp)];simp[go_sem]
  have hxl:f.length<=8:=by have:=mn hn64;rw[<-hxs]at this;simp at this;omega
  by_cases hm0:0<m
  ·have t1:decide ((0:Int)<(m:Int))=true:=by simp;omega
   have hle:=jC hm0;have HL:=Hh hle;have HX:=Hh hxs;have HB:=Hh N;clear hle hxs N;go_wp2_with (at_builtin;refine wpList_append_own _ rfl _ _ 27 rfl (w.heap.size+1) 5 i0 (.int .u8 0) 1 1 Tryz.underlying27 hi hz0 hz1 hz2 rfl (by decide) _ _ _ rfl (M.alloc _) ⟨wr.heap.size,0,none⟩ 1 1 [.int .u8 ((m:Int)%256)] rfl rfl ?c1 ?c2 ?c3 ?c4 ?c5 ?_)
   case c1=>intro j u z;match j,z with | 0,z=>simp at z;subst z;simp[Addr.add]
   case c2=>intro u z;simp at z;subst z;rfl
   case c3=>unfold maxLen;omega
   case c4=>omega
   case c5=>simp;omega
   intro v' w5 hown' d _;go_wp2;go_roundw
   case rel=>
    refine⟨m / 256,f++ [UInt8.ofNat m],by go_num,by rw[<-HX.out,HL.out];simp,by omega,?_,?_⟩
    ·have e1:(f++ [UInt8.ofNat m]).length=f.length+1:=by simp
     have e2:(f++ [UInt8.ofNat m]).map bv=f.map bv++ [.int .u8 ((m:Int)%256)]:=by simp[bv]
     rw[e1,e2];exact hown'
    ·exact(HB.out.alloc (by omega) _).grown d (by simp;omega) (fun k hk=>(own_lt M (hk)).1)
   case measure=>simp[intOf];omega
  ·have hm1:m=0:=by omega
   subst hm1;rw[gK,List.append_nil]at hxs;have HX:=Hh hxs;clear hm0 hxs hm;have hbw:Below w.heap.size w wr:=((Below.refl w.heap.size w).alloc (Nat.le_refl _) _).trans (N.mono (by omega));have P:=H.out.below hbw;have hqc:=P.cell;have hqz:=P.free;have hqw:q<w.heap.size:=H.out.lt;obtain⟨a4,c4,rfl,hs4⟩:=SlAt.ofOwns M;obtain⟨av,Z,rfl,hsv⟩:=SlAt.ofOwns P.own;have V:Below wr.heap.size wr (wr.alloc (.cells #[.int .u8 (f.length:Int)] 5)).drew:=((Below.refl _ wr).alloc (Nat.le_refl _) _).drew;have R:=P.below V;have hvo:∀g,(Value.slice av l.length Z).ownBlock=some g->g<w.heap.size:=fun g G=>(own_lt H.out.own G).2
   have hfar:∀(A B:World),A.grownBy B (Value.slice av l.length Z).ownBlock->w.heap.size<A.heap.size->A.cell? ⟨w.heap.size,0,none⟩=some (.pointer (some ⟨q,0,none⟩))->B.cell? ⟨w.heap.size,0,none⟩=some (.pointer (some ⟨q,0,none⟩)):=fun A B G hs hc=>by rw[G.cell_far ⟨w.heap.size,0,none⟩ hs (fun e=>by have:=hvo _ e.symm;simp at this)];exact hc
   have hqv:(Value.slice av l.length Z).ownBlock≠some q:=fun e=>by have:=(own_lt H.out.own e).1;omega
   have HQ1:=Hh (fun(B:World) (G:(wr.alloc (.cells #[.int .u8 (f.length:Int)] 5)).drew.grownBy B (Value.slice av l.length Z).ownBlock)=>(G.cell_far ⟨q,0,none⟩ (by simp;omega) (fun e=>hqv e.symm)).trans R.cell);have HQ2:=Hh (fun(B:World) (G:(wr.alloc (.cells #[.int .u8 (f.length:Int)] 5)).drew.grownBy B (Value.slice av l.length Z).ownBlock)=>(G.frozen_far ⟨q,0,none⟩ (by simp;omega) (fun e=>hqv e.symm)).trans R.free);have HQ3:=Hh (fun(B:World) (G:(wr.alloc (.cells #[.int .u8 (f.length:Int)] 5)).drew.grownBy B (Value.slice av l.length Z).ownBlock)=>hfar _ B G (by simp;omega) ((World.cell?_of_block (a:=⟨w.heap.size,0,none⟩) (V.block w.heap.size (by omega))).trans hbx));have HB1:=Hh V;have HVO:=Hh hvo;have HFAR:=Hh hfar;have HOWN:=Hh R.own;have HB:=Hh N;have HBW:=Hh hbw;have HPEN:=Hh P;have HXO:=Hh M;have HS4:=Hh hs4;have hwx:IntKind.u8.wrap (f.length:Int)=(f.length:Int):=by rw[IntKind.wrap_u8];omega
   have hq0:w.heap.size<wr.heap.size:=by omega
   have hq1:q<wr.heap.size:=by omega
   have hq2:¬w.heap.size=q:=by omega
   have hq3:¬q=w.heap.size:=by omega
   clear N hbw P R M hs4 hsv V hvo hfar hqv;have hmid:eN 5 q (.slice av l.length Z) w wr (.slice a4 f.length c4) f l (.slice av l.length Z):=⟨HPEN.out,cM.ofBelow HBW.out,hbx,HXO.out,fun g G=>⟨fun e=>by have:=HVO.out g G;omega,fun e=>by have:=HVO.out g G;have:=(own_lt HXO.out e).1;omega⟩⟩
   have HMID:=Hh hmid;have happ:∀(g C:Nat) (I:World),I.ownsRow (q+1) 5 1 (.slice (some ⟨g,0,none⟩) (l.length+1) C) (l.length+1) (l.map bv++ [.int .u8 (f.length:Int)])->(wr.alloc (.cells #[.int .u8 (f.length:Int)] 5)).drew.grownBy I (Value.slice av l.length Z).ownBlock->((Value.slice av l.length Z).ownBlock=some g\/g=wr.heap.size+1)->
     ∃v',eN 5 q (.slice av l.length Z) w (I.setCell ⟨q,0,none⟩ (.slice (some ⟨g,0,none⟩) (l.length+1) C)) (.slice a4 f.length c4) f (l++ [UInt8.ofNat f.length]) v':=fun g C I h1 h2 U=>by
    have hbvx:(.int .u8 (f.length:Int):Value)=bv (UInt8.ofNat f.length):=by simp[bv];omega
    rw[hbvx]at h1;exact⟨_,hmid.append hqw hq0 (fun g G=>(own_lt HXO.out G).2) HB1.out (by simp) h1 h2 U⟩
   have HAPP:=Hh happ;clear hmid happ;go_upto_region 5 with(fail)
   go_cut [] from 16 to 27 (fun wc=>∃v',eN 5 q (.slice av l.length Z) w wc (.slice a4 f.length c4) f (l++ [UInt8.ofNat f.length]) v')
   case first=>
    refine wp_region_noPanic ?_;go_region_law ((refine step_append_lies _ (by rfl) _ _ _ (by rfl) (q+1) 5 i0 (.int .u8 0) 1 1 Tryz.underlying27 hi hz0 hz1 hz2 (by rfl) (by omega) (.slice av l.length Z) l.length (l.map bv) (by rfl) HOWN.out ⟨wr.heap.size,0,none⟩ 1 1 [.int .u8 (f.length:Int)] (by rfl) (by rfl) (by intro j u z;match j,z with | 0,z=>simp at z;subst z;simp[Addr.add,go_sem]) (by intro u z;simp at z;subst z;rfl) (by omega) (by unfold maxLen;omega) (by omega) (by simp;omega) (wr.heap.size+1) (by simp) ?_;intro g C I J d Y hlt;have hw1q:I.cell? ⟨q,0,none⟩=some (.slice av l.length Z):=HQ1.out _ d;have y:I.cell? ⟨w.heap.size,0,none⟩=some (.pointer (some ⟨q,0,none⟩)):=HQ3.out _ d;have hw1z:I.frozen? ⟨q,0,none⟩=false:=HQ2.out _ d))
    all_goals (refine NoPanic.normal ?_)
    all_goals simp only[Exit.then]
    all_goals go_step
    all_goals go_meet
    all_goals exact HAPP.out _ _ _ J d Y
   case rest=>
    obtain⟨v2,hmid2⟩:=hcut;have HM2:=Hh hmid2;clear hmid2;have hbx2:=HM2.out.box;go_wp2;refine(wpIn_wide (n:=3)).1 ?_;have hsz2:=HM2.out.to.size;have hbs2:aM wc wc.heap.size a4 f.length c4 f:=by obtain⟨a5,c5,e5,h5⟩:=dG HM2.out.row (by omega);injection e5 with e6 e7 e8;subst e6;subst e8;exact h5
    have hb3:Below wc.heap.size wc (wc.alloc (.cells #[.slice a4 f.length c4] 27)):=(Below.refl _ wc).alloc (Nat.le_refl _) _;have hul:∀g,(Value.slice a4 f.length c4).ownBlock=some g->g<wc.heap.size:=fun g G=>(own_lt HM2.out.row G).2
    refine wpIn_rangeFunc_ownG rfl (by omega) (gf:=102) (lb:=#[.pointer (some ⟨wc.heap.size,0,none⟩)]) rfl trivial (enters_of Tryz.func102 (by kernel_rfl) rfl)
     (nN Fence.wide 2 trivial rfl (by omega) wc.heap.size (fun k=>k=wc.heap.size\/(Value.slice a4 f.length c4).ownBlock=some k) f a4 c4 (wc.alloc (.cells #[.slice a4 f.length c4] 27)) (by simp) (by simp[go_sem]) (.inl rfl) ((hbs2.below hb3 (Nat.le_refl _)).mono hb3.size) (fun b o e=> .inr (by rw[e];rfl)))
     (fun h k x hx=>(k x hx).trans (h x hx)) (fun W t o o' ht _ _ _ k hk=>World.putObj_heap_other (by simp at ht;rcases hk with rfl | hk;(omega);(have:=hul k hk;omega))) (Below.refl _ _) (fun _=>rfl)
     (fun pre W=>wc.heap.size+1<=W.heap.size/\∃X,eN 5 q (.slice av l.length Z) w W (.slice a4 f.length c4) f (l++ [UInt8.ofNat f.length]++pre.map (·.2)) X/\X.ownBlock≠some wc.heap.size)
     (fun _ _ _=>False)
     (fun s A B row hs G hr=>⟨Nat.le_trans hs.1 G.size,hs.2.elim fun X U=>⟨X,U.1.kept G (fun r e=>⟨by have:=(hr r e).1;simp at this;omega,(hr r e).2⟩),U.2⟩⟩)
     (fun _ _ _ _ _ hs _ _=>hs)
     ⟨by simp,v2,by simpa using HM2.out.kept (W':=wc.alloc (.cells #[.slice a4 f.length c4] 27)) (row:=none) ⟨rfl,rfl,rfl,by simp,fun k hk _=>Below.heap_alloc _ _ _ hk⟩ (fun r e=>by cases e),fun e=>by have:=(own_lt HM2.out.pen.own e).2;omega⟩
     (fun x=>{ tmps:=#[.pointer (some ⟨q,0,none⟩), .int .u64 0, .pointer (some ⟨w.heap.size,0,none⟩),undef, .slice a4 f.length c4,undef, .int .u8 (x.2.toNat:Int), .int .u64 0, .bool false,u9,u10,u11,u12,u13,u14,u15,u16,u17,u18,u19,u20,u21,u22,u23,u24,u25,u26,u27, .slice a4 f.length c4, .func (.func 102) #[] #[.pointer (some ⟨wc.heap.size,0,none⟩)], .int .i64 (x.1:Int), .int .u8 (x.2.toNat:Int),undef,undef,undef,undef,undef,undef,undef,undef,undef,undef],defers:= [] }) ?assign ?body ?done ?stop
    case assign=>
     intro t x W K hK
     gi_wp2
     exact hK
    case body=>
     rintro t pre x W ⟨hW,X,U,hv3⟩ hpre;obtain⟨L,hL⟩:∃L,L=l++ [UInt8.ofNat f.length]++pre.map (·.2):=⟨_,rfl⟩
     rw[<-hL]at U;have hLl:L.length<=1000010:=by rw[hL];simp;omega
     have hL2:l++ [UInt8.ofNat f.length]++(pre++ [x]).map (·.2)=L++ [x.2]:=by rw[hL];simp
     have HL2:=Hh hL2;clear hL hL2;have hx1:=U.pen.cell;have hx2:=U.pen.free;have O:=U.box;have hx4:=U.to.size;have hx5:w.heap.size<W.heap.size:=by omega
     have hx6:q<W.heap.size:=by omega
     have V:Below W.heap.size W (W.alloc (.cells #[.int .u8 (x.2.toNat:Int)] 5)).drew:=((Below.refl _ W).alloc (Nat.le_refl _) _).drew;have hpA:=U.pen.below V;have hqv:X.ownBlock≠some q:=fun e=>by have:=(own_lt U.pen.own e).1;omega
     have hA3:(W.alloc (.cells #[.int .u8 (x.2.toNat:Int)] 5)).drew.cell? ⟨w.heap.size,0,none⟩=some (.pointer (some ⟨q,0,none⟩)):=(World.cell?_of_block (a:=⟨w.heap.size,0,none⟩) (V.block w.heap.size hx5)).trans O;have HOW:=Hh hpA.own;have HA1:=Hh (fun(B:World) (G:(W.alloc (.cells #[.int .u8 (x.2.toNat:Int)] 5)).drew.grownBy B X.ownBlock)=>(G.cell_far ⟨q,0,none⟩ hpA.lt (fun e=>hqv e.symm)).trans hpA.cell);have HA2:=Hh (fun(B:World) (G:(W.alloc (.cells #[.int .u8 (x.2.toNat:Int)] 5)).drew.grownBy B X.ownBlock)=>(G.frozen_far ⟨q,0,none⟩ hpA.lt (fun e=>hqv e.symm)).trans hpA.free);have HA3:=Hh (fun(B:World) (G:(W.alloc (.cells #[.int .u8 (x.2.toNat:Int)] 5)).drew.grownBy B X.ownBlock)=>(G.cell_far ⟨w.heap.size,0,none⟩ (by simp;omega) (fun e=>(U.far _ e.symm).1 rfl)).trans hA3);have HP:=Hh (fun(g C:Nat) (I:World) M d Y=>U.round (T:=5) hqw hx5 wc.heap.size (wc.heap.size+1) (by omega) hsz2 hv3 x.2 (g:=g) (cap:=C) (w1:=I) M d Y);have H3:=Hh U;clear U hpA V hv3;refine wpIn_block ?_;refine kG ?hm ?hcalm ?hout ?_
     case hm=>kernel_rfl
     case hcalm=>exact xv (by kernel_rfl)
     case hout=>rintro⟨_,_,hh⟩;exact hh
     refine wpAny_of_held (S:=fun w'=>w'.cell? ⟨w.heap.size,0,none⟩=some (.pointer (some ⟨q,0,none⟩))) _ _ _ _ ?_;refine wpAnyH_take (i:=0) (v:= .pointer (some ⟨q,0,none⟩)) rfl (by kernel_rfl) (by kernel_rfl) (by kernel_rfl) (fun _ _ _ h=>h) (.inl ⟨by rfl,by intro w' hS;go_simp;all_goals rfl⟩) (by simpa using O) ?_;simp only[Act.put,List.setIfInBounds_toArray,List.set_cons_zero,List.set_cons_succ];refine wpAnyH_take (i:=1) (v:= .pointer (some ⟨q,0,none⟩)) rfl (by kernel_rfl) (by kernel_rfl) (by kernel_rfl) (fun _ _ _ h=>h) (.inl ⟨by rfl,by intro w' hS;go_simp;all_goals rfl⟩) (by simpa using O) ?_;simp only[Act.put,List.setIfInBounds_toArray,List.set_cons_zero,List.set_cons_succ];refine wpAnyH_take (i:=2) (v:= .pointer (some ⟨q,0,none⟩)) rfl (by kernel_rfl) (by kernel_rfl) (by kernel_rfl) (fun _ _ _ h=>h) (.inl ⟨by rfl,by intro w' hS;go_simp;all_goals rfl⟩) (by simpa using O) ?_;simp only[Act.put,List.setIfInBounds_toArray,List.set_cons_zero,List.set_cons_succ];refine wpAnyH_take (i:=3) (v:= .pointer (some ⟨q,0,none⟩)) rfl (by kernel_rfl) (by kernel_rfl) (by kernel_rfl) (fun _ _ _ h=>h) (.inl ⟨by rfl,by intro w' hS;go_simp;all_goals rfl⟩) (by simpa using O) ?_;simp only[Act.put,List.setIfInBounds_toArray,List.set_cons_zero,List.set_cons_succ];refine wpAnyH_take (i:=5) (v:= .int .u8 (x.2.toNat:Int)) rfl (by kernel_rfl) (by kernel_rfl) (by kernel_rfl) (fun _ _ _ h=>h) (.inl ⟨by rfl,by intro w' hS;go_simp;all_goals rfl⟩) (by simpa using O) ?_;simp only[Act.put,List.setIfInBounds_toArray,List.set_cons_zero,List.set_cons_succ];refine mw (i:=4) (j:=6) (by kernel_rfl) ?_ ?_
     ·refine gx (v:=X) (w1:=W.drew) rfl (by rfl) (by go_simp;all_goals rfl) ⟨by first | exact hA3 | simpa using O,?_⟩;simp only[Act.put,List.setIfInBounds_toArray,List.set_cons_zero,List.set_cons_succ];refine dT (i:=6) (by kernel_rfl) ?_;refine gx (v:= .slice (some ⟨W.heap.size,0,none⟩) 1 1) (w1:=(W.alloc (.cells #[.int .u8 (x.2.toNat:Int)] 5)).drew) rfl (by rfl) (by go_simp;all_goals rfl) ⟨by first | exact hA3 | simpa using O,?_⟩;simp only[Act.put,List.setIfInBounds_toArray,List.set_cons_zero,List.set_cons_succ];refine dT (i:=7) (by kernel_rfl) ?_;refine fq rfl (by rfl) ?_;refine wp_append_lies _ _ _ _ (by rfl) (q+1) 5 i0 (.int .u8 0) 1 1 Tryz.underlying27 hi hz0 hz1 hz2 (by rfl) (by omega) X L.length (L.map bv) (by rfl) HOW.out ⟨W.heap.size,0,none⟩ 1 1 [.int .u8 (x.2.toNat:Int)] (by rfl) (by rfl) (by intro j u z;match j,z with | 0,z=>simp at z;subst z;simp[Addr.add,go_sem]) (by intro u z;simp at z;subst z;rfl) (by omega) (by unfold maxLen;omega) (by omega) (by simp;omega) (W.heap.size+1) (by simp) ?_;intro g C I J d Y hlt;have hw1q:=HA1.out _ d;have hw1z:=HA2.out _ d;have y:=HA3.out _ d;refine⟨y,?_⟩;simp only[Act.put,List.setIfInBounds_toArray,List.set_cons_zero,List.set_cons_succ];refine wpAnyH_take (i:=8) (v:= .pointer (some ⟨q,0,none⟩)) rfl (by kernel_rfl) (by kernel_rfl) (by kernel_rfl) (fun _ _ _ h=>h) (.inl ⟨by rfl,by intro w' hS;go_simp;all_goals rfl⟩) y ?_;simp only[Act.put,List.setIfInBounds_toArray,List.set_cons_zero,List.set_cons_succ];refine wpAnyH_take (i:=9) (v:= .pointer (some ⟨q,0,none⟩)) rfl (by kernel_rfl) (by kernel_rfl) (by kernel_rfl) (fun _ _ _ h=>h) (.inl ⟨by rfl,by intro w' hS;go_simp;all_goals rfl⟩) y ?_;simp only[Act.put,List.setIfInBounds_toArray,List.set_cons_zero,List.set_cons_succ];refine dT (i:=10) (by kernel_rfl) ?_;refine oC (w1:=I.setCell ⟨q,0,none⟩ (.slice (some ⟨g,0,none⟩) (L.length+1) C)) rfl (by rfl) (by go_simp;all_goals rfl) ⟨by rw[World.cell?_setCell_other _ _ _ _ (show(⟨q,0,none⟩:Addr)≠⟨w.heap.size,0,none⟩ from fun e=>by injection e with e1;omega)];exact y,?_⟩;refine dc ?_;obtain⟨p1,p2,p3,v4,p4,p5⟩:=HP.out g C I J d Y;exact⟨by simpa using p1,p2,Nat.le_trans hW p3,v4,by rw[HL2.out];exact p4,p5⟩
     ·refine gx (v:= .slice (some ⟨W.heap.size,0,none⟩) 1 1) (w1:=(W.alloc (.cells #[.int .u8 (x.2.toNat:Int)] 5)).drew) rfl (by rfl) (by go_simp;all_goals rfl) ⟨by first | exact hA3 | simpa using O,?_⟩;simp only[Act.put,List.setIfInBounds_toArray,List.set_cons_zero,List.set_cons_succ];refine dT (i:=4) (by kernel_rfl) ?_;refine gx (v:=X) (w1:=(W.alloc (.cells #[.int .u8 (x.2.toNat:Int)] 5)).drew) rfl (by rfl) (by go_simp;all_goals rfl) ⟨by first | exact hA3 | simpa using O,?_⟩;simp only[Act.put,List.setIfInBounds_toArray,List.set_cons_zero,List.set_cons_succ];refine dT (i:=7) (by kernel_rfl) ?_;refine fq rfl (by rfl) ?_;refine wp_append_lies _ _ _ _ (by rfl) (q+1) 5 i0 (.int .u8 0) 1 1 Tryz.underlying27 hi hz0 hz1 hz2 (by rfl) (by omega) X L.length (L.map bv) (by rfl) HOW.out ⟨W.heap.size,0,none⟩ 1 1 [.int .u8 (x.2.toNat:Int)] (by rfl) (by rfl) (by intro j u z;match j,z with | 0,z=>simp at z;subst z;simp[Addr.add,go_sem]) (by intro u z;simp at z;subst z;rfl) (by omega) (by unfold maxLen;omega) (by omega) (by simp;omega) (W.heap.size+1) (by simp) ?_;intro g C I J d Y hlt;have hw1q:=HA1.out _ d;have hw1z:=HA2.out _ d;have y:=HA3.out _ d;refine⟨y,?_⟩;simp only[Act.put,List.setIfInBounds_toArray,List.set_cons_zero,List.set_cons_succ];refine wpAnyH_take (i:=8) (v:= .pointer (some ⟨q,0,none⟩)) rfl (by kernel_rfl) (by kernel_rfl) (by kernel_rfl) (fun _ _ _ h=>h) (.inl ⟨by rfl,by intro w' hS;go_simp;all_goals rfl⟩) y ?_;simp only[Act.put,List.setIfInBounds_toArray,List.set_cons_zero,List.set_cons_succ];refine wpAnyH_take (i:=9) (v:= .pointer (some ⟨q,0,none⟩)) rfl (by kernel_rfl) (by kernel_rfl) (by kernel_rfl) (fun _ _ _ h=>h) (.inl ⟨by rfl,by intro w' hS;go_simp;all_goals rfl⟩) y ?_;simp only[Act.put,List.setIfInBounds_toArray,List.set_cons_zero,List.set_cons_succ];refine dT (i:=10) (by kernel_rfl) ?_;refine oC (w1:=I.setCell ⟨q,0,none⟩ (.slice (some ⟨g,0,none⟩) (L.length+1) C)) rfl (by rfl) (by go_simp;all_goals rfl) ⟨by rw[World.cell?_setCell_other _ _ _ _ (show(⟨q,0,none⟩:Addr)≠⟨w.heap.size,0,none⟩ from fun e=>by injection e with e1;omega)];exact y,?_⟩;refine dc ?_;obtain⟨p1,p2,p3,v4,p4,p5⟩:=HP.out g C I J d Y;exact⟨by simpa using p1,p2,Nat.le_trans hW p3,v4,by rw[HL2.out];exact p4,p5⟩
    case done=>
     rintro D ys W hD rfl ⟨hW,X,U,hv3⟩ hK;have hfin:=U.kept (grownBy_putObj' W D (.deferred none)) (fun r e=>by cases e;exact⟨by simp at hD;omega,_,hK,rfl⟩);have hput:l++ [UInt8.ofNat f.length]++(gV f f.length).map (·.2)=l++aC n:=by rw[vW,HX.out];simp[aC]
     rw[hput]at hfin;go_wp2;refine⟨by simp, .inl ⟨_,_,rfl,run_takeDeferred hK,?_⟩⟩;exact⟨_,results_none rfl _ _ _,rfl,X,hfin.pen,hfin.to⟩
    case stop=>rintro D c pre W _ _ h _;exact h.elim
end Go.Proofs.YtogcnfhmcpkdcaaGreat
namespace Go.Proofs.YtogcnfhmcpkdcaaGreat
open Go.RowKit
set_option linter.unusedVariables false
end Go.Proofs.YtogcnfhmcpkdcaaGreat
namespace Go.Proofs.YtogcnfhmcpkdcaaGreat
open Go.RowKit
set_option linter.unusedVariables false
set_option linter.unusedSimpArgs false
attribute [local go_sem ↓] Go.wp_at_zero Go.wp_at_succ
theorem cy.append{w:TypeId}{A w1:World}{q:Nat}{v v':Value}{l m:List UInt8}(h:cy w A q v l)(hown:w1.ownsRow (q+1) w 1 v' (l.length+m.length) (l.map bv++m.map bv))
 (b:A.grownBy w1 v.ownBlock)(hat:v'.ownBlock=v.ownBlock\/v'.ownBlock=some A.heap.size):
  cy w (w1.setCell ⟨q,0,none⟩ v') q v' (l++m)/\cM q v A (w1.setCell ⟨q,0,none⟩ v') v':=by
 have j:v.ownBlock≠some q:=fun e=>by have:=(own_lt h.own e).1;omega
 have i:=b.size;have n:=h.lt;have f:w1.heap[q]? =A.heap[q]? :=b.block q n (fun e=>j e.symm);have d:w1.cell? ⟨q,0,none⟩=some v:=(World.cell?_of_block (a:=⟨q,0,none⟩) f).trans h.cell;have c:∀k,k≠q->(w1.setCell ⟨q,0,none⟩ v').heap[k]? =w1.heap[k]? :=fun k r=>Below.heap_setCell _ _ _ k r
 refine⟨⟨by simp;omega,World.cell?_setCell_same _ _ _ d,?_,?_⟩,⟨b.os,b.tape,b.output,by simpa using i,fun k r p o=>(c k p).trans (b.block k r (fun e=>o e.symm)),?_⟩⟩
 ·rw[World.frozen?_setCell];exact(World.frozen?_of_block (a:=⟨q,0,none⟩) f).trans h.free
 ·rw[List.length_append,List.map_append];refine⟨hown.1,?_⟩;rcases hown.2 with⟨t,s⟩ | ⟨x,g,cur,t,F,D,C,B,z,y⟩
  ·exact .inl ⟨t,s⟩
  ·exact .inr ⟨x,g,cur,t,F,(c x (by omega)).trans D,C,B,z,y⟩
 ·rcases hat with e | e
  ·exact .inl e
  ·exact .inr ⟨_,e,Nat.le_refl _⟩
theorem cy.far{d:TypeId}{A w1:World}{q:Nat}{v:Value}{l:List UInt8}(h:cy d A q v l)(hgrow:A.grownBy w1 v.ownBlock):w1.cell? ⟨q,0,none⟩=some v/\w1.frozen? ⟨q,0,none⟩=false:=by
 have c:v.ownBlock≠some q:=fun e=>by have:=(own_lt h.own e).1;omega
 have b:w1.heap[q]? =A.heap[q]? :=hgrow.block q h.lt (fun e=>c e.symm);exact⟨(World.cell?_of_block (a:=⟨q,0,none⟩) b).trans h.cell,(World.frozen?_of_block (a:=⟨q,0,none⟩) b).trans h.free⟩
theorem x5(q:Nat)(v:Value)(l:List UInt8)(hl:l.length<=1000000)(m:List UInt8)(am:Option Addr)(n c:Nat)(hn:n<=1000000)(w:World)(hm:aM w q am n c m)(h:cy 5 w q v l):
  Calls Tryz.prog 36 #[.pointer (some ⟨q,0,none⟩), .slice am n c] w fun e w'=>e= .returned (.tuple #[])/\∃v',cy 5 w' q v' (l++bN m)/\cM q v w w' v':=by
 obtain⟨z,C,t,s,r⟩:=info_parts pI;have j:=hm.hlen;subst j;have H:=Hh h;have N:=Hh hm;clear h hm;go_enter Tryz.func36,Tryz.ntmps36
 go_wp2_with fail;refine(kK q m.length (by omega) v l hl w H.out).mono ?_;rintro e S ⟨rfl,T,b,g⟩;have k:=g.below H.out (Nat.le_refl q);have y:=Hh (N.out.below k (Nat.le_refl _));obtain⟨L,p⟩:∃L,L=l++aC m.length:=⟨_,rfl⟩
 have B:L.length<=1000009:=by have:=mn (show m.length<18446744073709551616 by omega);rw[p];simp[aC];omega
 rw[<-p]at b;have O:=Hh p;have i:=Hh b;have x:=Hh g;have I:=b.cell;have F:=b.free;have A:=b.lt;clear b g k p;go_wp2_with (at_builtin;refine bU _ rfl _ _ 27 rfl (q+1) 5 z (.int .u8 0) 1 1 Tryz.underlying27 C t s r rfl (by decide) _ _ _ rfl i.out.own q am m.length c (m.map bv) rfl y.out.sl (lK _) ?c1 ?c2 ?c3 ?_)
 case c1=>unfold maxLen;omega
 case c2=>omega
 case c3=>omega
 intro U c2 R d a o;obtain⟨G,D⟩:=i.out.far a;have f:=i.out.append d a o;have P:=Hh f;clear d a o f;go_wp2;go_end0;obtain⟨M,J⟩:=P.out;exact⟨rfl,_,by rw[bN,<-List.append_assoc,<-O.out];exact M,x.out.trans J⟩
end Go.Proofs.YtogcnfhmcpkdcaaGreat
namespace Go.Proofs.YtogcnfhmcpkdcaaGreat
open Go.RowKit
set_option linter.unusedVariables false
theorem du(q:Nat)(v:Value)(l:List UInt8)(hl:l.length<=1000000000)(w:World)(h:cy 5 w q v l):
  Calls Tryz.prog 38 #[.pointer (some ⟨q,0,none⟩)] w fun e w'=>∃a c,e= .returned (.slice a l.length c)/\aM w' w'.heap.size a l.length c l/\Below w.heap.size w w'/\w'.ownsRow w.heap.size 5 1 (.slice a l.length c) l.length (l.map bv):=by
 obtain⟨i,c0,rfl,b⟩:=dG h.own (by omega);have k:=h.cell;go_enter Tryz.func38,Tryz.ntmps38
 go_wp2_with fail;refine(nI l i l.length c0 _ b).mono ?_;rintro e j ⟨a,c,rfl,g,f,d⟩;go_wp2;go_ret;exact⟨a,c,rfl,g,f,d⟩
theorem aM.setOther{w:World}{B:Nat}{a:Option Addr}{n c:Nat}{l:List UInt8}(h:aM w B a n c l){p:Addr}{u:Value}(g:w.cell? p=some u)(hu:∀c:Int,u≠.int .u8 c)(v:Value):aM (w.setCell p v) B a n c l:=
 ⟨h.hlen,h.hle,h.hmax,h.hnil,h.hbig,fun j=>let ⟨b,o,e,hl,hc⟩:=h.hat j;⟨b,o,e,hl,fun i k=>by
  have d:=hc i k;rw[<-d];have f:p≠⟨b,o+i,none⟩:=fun f=>by rw[<-f,g]at d;exact hu _ (Option.some.inj d)
  exact World.cell?_setCell_other _ _ _ _ f⟩⟩
theorem bF.setOther{w:World}{q p o:Nat}{l:List UInt8}(h:bF w q l)(hpq:p≠q){u:Value}(d:w.cell? ⟨p,o,none⟩=some u)(hu:∀c:Int,u≠.int .u8 c)(v:Value):bF (w.setCell ⟨p,o,none⟩ v) q l:=by obtain⟨b,a,n,c,i,g,f⟩:=h;refine⟨by simpa using b,a,n,c,?_,by simpa using g,by simpa using f.setOther d hu v⟩;rw[World.cell?_setCell_other _ _ _ _ (fun e=>by injection e with e1;exact hpq e1)];exact i
end Go.Proofs.YtogcnfhmcpkdcaaGreat
namespace Go.Proofs.YtogcnfhmcpkdcaaGreat
open Go.RowKit
set_option linter.unusedVariables false
def wD(q:Nat)(w w':World)(l m:List UInt8)(k:Nat):Prop:=∃b a,a=l++m/\a.length<=l.length+k/\cy 5 w' q b a/\Below q w w'
theorem ck{n:Nat}(h:n<18446744073709551616):(aC n).length<=9:=by have:=mn h;simp[aC];omega
theorem dE(q n:Nat)(hn:n<18446744073709551616)(v:Value)(l:List UInt8)(hl:l.length<=1000000)(w:World)(h:cy 5 w q v l):
  Calls Tryz.prog 35 #[.pointer (some ⟨q,0,none⟩), .int .u64 n] w fun e w'=>e= .returned (.tuple #[])/\wD q w w' l (aC n) 9:=
 (kK q n hn v l hl w h).mono fun e w' ⟨he,a,c,b⟩=>⟨he,a,_,rfl,by rw[List.length_append];have:=ck hn;omega,c,b.below h (Nat.le_refl _)⟩
theorem i9(q:Nat)(v:Value)(l:List UInt8)(hl:l.length<=1000000)(m:List UInt8)(am:Option Addr)(n c:Nat)(hn:n<=1000000)(w:World)(hm:aM w q am n c m)(h:cy 5 w q v l):
  Calls Tryz.prog 36 #[.pointer (some ⟨q,0,none⟩), .slice am n c] w fun e w'=>e= .returned (.tuple #[])/\wD q w w' l (bN m) (9+n):=
 (x5 q v l hl m am n c hn w hm h).mono fun e w' ⟨he,a,d,b⟩=>⟨he,a,_,rfl,by
  rw[List.length_append,bN,List.length_append];have f:=hm.hlen;have:=ck (show m.length<18446744073709551616 by omega);omega,d,b.below h (Nat.le_refl _)⟩
theorem cy.new(T:TypeId)(w:World):cy 5 (w.alloc (.cells #[.slice none 0 0] T)) w.heap.size (.slice none 0 0) []:=⟨by simp,by simp[go_sem],by simp[go_sem],⟨rfl, .inl ⟨rfl,rfl⟩⟩⟩
end Go.Proofs.YtogcnfhmcpkdcaaGreat
