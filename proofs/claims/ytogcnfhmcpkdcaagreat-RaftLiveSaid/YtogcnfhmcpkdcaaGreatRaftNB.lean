/-
Contract of sent.
-/
import Derived.Test.YtogcnfhmcpkdcaaGreatRaftNA
import Derived.Test.YtogcnfhmcpkdcaaGreatRaftM6
import Derived.Test.YtogcnfhmcpkdcaaGreatLine5
set_option maxRecDepth 100000
set_option maxHeartbeats 2000000
namespace Go.Proofs.YtogcnfhmcpkdcaaGreat
open Go.RowKit
set_option linter.unusedVariables false
set_option linter.unusedSimpArgs false
section
theorem ao.relined{w a:World}{p:Nat}{R:aa}{M:ay}(h:ao w p R M)(hb3:Below w.heap.size w a){base lp lc:Nat}{la:Option Addr}{ms:List af}{x:ae}(b:cE a base lp x la lc ms)(hb:w.heap.size<=base):
  ao (a.setCell ⟨p,4,none⟩ (.pointer (some ⟨lp,0,none⟩))) p { R with line:=x } { M with lb:=lp,la:=la,lc:=lc,ms:=ms }/\ah p M { M with lb:=lp,la:=la,lc:=lc,ms:=ms } w (a.setCell ⟨p,4,none⟩ (.pointer (some ⟨lp,0,none⟩))):=
 h.headed (R1:=R) (M1:=M) (dS.ofBelow hb3) (h.below hb3).row h.sv rfl rfl rfl (h.below hb3).st b hb
structure iW (p g:Nat) (lb:Nat) (x:ax) (W:World):Prop where
 l2:W.cell? ⟨g,2,none⟩=some (.int .i64 x.a)
 l4:W.cell? ⟨g,4,none⟩=some (.int .i64 x.o)
theorem iW.of{p g lb:Nat}{x:ax}{b:Option Addr}{n a:Nat}{ba:Option Addr}{d:Nat}{w:World}(c:w.heap[g]? =some (.cells (aF x b n a ba d) 32 (0,0))):iW p g lb x w:=
 let ⟨_,_,l2,_,l4,_⟩:=aq c
 ⟨l2,l4⟩
theorem qt(p:Nat)(R:aa)(M:ay)(f:Int)(x:ax)(ia:Option Addr)(ic:Nat)(ms:List af)(ba:Option Addr)(bc:Nat)(hok:R.Ok)(hr:aO x=true)(hnw:R.news.length<=999990000)(ho:R.out.length<=999999000)(w:World)(h:ao w p R M)(hx:g9 w p M x ia ic ms ba bc):
  Calls Tryz.prog 47 #[.pointer (some ⟨p,0,none⟩), .int .i64 f, .agg (aF x ia ms.length ic ba bc)] w fun e w'=>e= .returned (.tuple #[])/\∃M',ao w' p (R.sent f x) M'/\ah p M M' w w':=by
 obtain⟨-, -,⟨ha0,ha1⟩, -,⟨ho0,ho1⟩,hi16, -,hits, -⟩:=aH hr;have hlen:=hx.la.len;obtain⟨V,hV,hbV,hsV,hrV⟩:=jA w x ia ms.length ic ba bc;have hrf:=h.below hbV;have HR:=Hh hrf;have HB:=Hh hbV;have HV:=Hh hV;have HBX:=Hh hrV;have HNW:=Hh (h.notNew (Nat.le_refl w.heap.size));have HX:=Hh (hx.below hbV);have HOK:=Hh hok;have G:=Hh hlen;have HITS:=Hh hits;obtain⟨S,b,hF⟩:∃S b,R.follows f x=(S,b):=⟨_,_,rfl⟩
 have HF:=Hh hF;have i:=Hh (show S.Ok by have A:=dw hok f x;rw[hF]at A;exact A);have HGS:=Hh (show S.news.length<=999990000/\S.out.length<=999999001 by
  have A:aU 0 1 0 R S:=by have h8:=eQ R f x;rw[hF]at h8;exact h8
  exact⟨by have:=A.1;omega,by have:=A.2.1;omega⟩)
 obtain⟨l0,l1,l2,l3,l4,l5,l6,l7⟩:=aq hrV;rw[hV]at l0 l1 l2 l3 l4 l5 l6 l7;clear hrf hbV hV hrV h hok hx hlen hits hF;go_enter Tryz.func47,Tryz.ntmps47
 go_wp2_with fail;rw[<-HV.out];clear l0 l1 l2 l3 l4 l5 l6 l7;refine(li p R M f x ia ms.length ic ba bc (by omega) _ HR.out).mono ?_;rintro e w1 ⟨rfl,t,hr1,Y⟩;rw[HF.out]at hr1 ⊢;have HR1:=Hh (show ao w1 p S t from hr1);have HT1:=Hh ((ah.ofBelow HB.out).trans Y);have HBX1:=Hh ((Y.block w.heap.size (by omega) HNW.out).trans HBX.out);have HX1:=Hh (HX.out.touch Y);have hs1:=Y.size;have O:=Hh (show ¬t.own p w.heap.size from fun A=>by
  rcases Y.fresh _ A with h8 | h8
  ·exact HNW.out h8
  ·omega)
 clear hr1 Y;cases b with
 | false=>have v:=Hh (show R.sent f x=S by unfold aa.sent;rw[HF.out];rfl);go_wp2;refine bodyPost_ret (results_none rfl _ _ _) rfl ?_;exact⟨rfl,t,by rw[v.out];exact HR1.out,HT1.out⟩
 | true=>
  have v:=Hh (show R.sent f x=S.sent1 f x by unfold aa.sent;rw[HF.out];rfl);have c4:w1.cell? ⟨p,4,none⟩=some (.pointer (some ⟨t.lb,0,none⟩)):=HR1.out.c rfl;go_wp2_with fail;refine(qR 0 t.lb S.line i.out.line t.la t.lc t.ms _ HR1.out.ln).mono ?_;rintro e w2 ⟨q,qa,qc,rfl,hln2,hb2,hq2⟩;have HLN2:=Hh hln2;have HB2:=Hh hb2;have HBX2:=Hh ((hb2.block w.heap.size (by omega)).trans HBX1.out);have HX2:=Hh (HX1.out.below hb2);have hs2:=hb2.size;have hlq:=hln2.lt;obtain⟨-, -,l2,l3, -, -,l6, -⟩:=aq HBX2.out;clear c4 hln2 hb2;go_wp2_with fail;refine(vC w1.heap.size q S.line i.out.line qa qc t.ms x.a x.u ms ia ic _ HLN2.out HX2.out.la.its (by have:=G.out;omega) (fun hp ad e9=>by
   obtain⟨b9,o9,e8,hl9, -⟩:=HX1.out.la.its.sl.hat (by rw[HX1.out.la.its.sl.hlen];omega);rw[e9]at e8;injection e8 with e8;subst e8
   show b9≠q;omega) hs2).mono ?_
  rintro e w3 ⟨rfl,hj3⟩;rw[show ms.map af.it=x.its from HX2.out.la.eq]at hj3 ⊢;obtain⟨ja,jc,js,hln3,W, -⟩:=hj3;have hb3:Below w1.heap.size w1 w3:=HB2.out.trans ⟨W.os,W.tape,W.output,W.size,fun k hk=>W.block k (by omega) (by omega) (fun e9=>by have A:=(own_lt HLN2.out.own e9.symm).1;omega)⟩
  have HLN3:=Hh hln3;have HB3:=Hh hb3;have a1:=Hh (HR1.out.below hb3);have HT3:=Hh (HT1.out.trans (.ofBelow hb3));have T:=Hh ((hb3.block w.heap.size (by omega)).trans HBX1.out);have HJS:=Hh (gv i.out.line x.a x.u x.its);obtain⟨E,hE⟩:∃E,S.line.join x.a x.u x.its=E:=⟨_,rfl⟩
  rw[hE]at HLN3 HJS ⊢;have HE:=Hh hE;clear hln3 W hb3 hE l2 l3 l6;have c4:w3.cell? ⟨p,4,none⟩=some (.pointer (some ⟨t.lb,0,none⟩)):=a1.out.c rfl;have c8:w3.cell? ⟨p,8,none⟩=some (.int .i64 S.commit):=a1.out.c rfl;have hs3:=HB3.out.size;obtain⟨L,hL⟩:∃L,S.line.last=L:=⟨_,rfl⟩
  have hLb:=bP i.out.line;rw[hL]at hLb;have HL:=Hh hL;clear hL;rcases HJS.out with e | ⟨e,hp0,hp1,hlast, -⟩ | ⟨j,k,e,hp0,hp1,hj,hk,hbj,hjl, -, -, -, -,hlast⟩
  ·subst e;have w0:IntKind.i64.wrap (x.a-1)=x.a-1:=IntWalk.i64_in _ (by omega);have N:=Hh (show R.sent f x=S.post f ⟨4,0,max 0 (min L (x.a-1)),0,x.a,false,[],[]⟩ by
    rw[v.out];unfold aa.sent1;simp only[HE.out,HL.out];rw[if_neg (by simp)];simp only[if_true])
   go_wp2_with fail;refine lT (S:=iW p w.heap.size t.lb x) ?_;intro w4 g;have HR4:=Hh (a1.out.below g);have HBX4:=Hh ((g.block w.heap.size (by omega)).trans T.out);have hs4:=g.size;have z:iW p w.heap.size t.lb x w4:=iW.of HBX4.out;refine hT 0 48 z ?_;refine hT 1 49 z ?_;refine hT 2 50 z ?_;refine hT 4 52 z ?_;refine hT 9 57 z ?_;refine hT 5 53 z ?_;refine hT 10 58 z ?_;refine hW 6 54 (.int .i64 (x.a-1)) z ?_;clear z;refine bp 3 ?_;go_simp;refine(gn i.out.line HR4.out).mono ?_;rintro e w5 ⟨rfl,m5,hm5⟩;rw[HL.out];have HR5:=Hh (HR4.out.drawn hm5);have HB5:=Hh (show Below w4.heap.size w4 w5 by rw[hm5];exact below_drewN w4 m5);have P:=Hh ((HB5.out.block w.heap.size (by omega)).trans HBX4.out);have hS5:iW p w.heap.size t.lb x w5:=iW.of P.out;have HS5:=Hh hS5;have HT5:=Hh (HT3.out.trans ((ah.ofBelow g).trans (.ofBelow HB5.out)));clear hS5 hm5 g c4 c8;refine⟨HS5.out,?_⟩;refine bp 7 ?_;go_simp;refine⟨HS5.out,?_⟩;refine bp 8 ?_;go_simp;refine⟨HS5.out,?_⟩;have hS5:=HS5.out;refine hV 11 59 (.agg (aF ⟨4,0,max 0 (min L (x.a-1)),0,x.a,false,[],[]⟩ none 0 0 none 0)) hS5 ?_;clear hS5;refine bp 12 ?_;go_simp;refine(cO p S t f ⟨4,0,max 0 (min L (x.a-1)),0,x.a,false,[],[]⟩ rfl rfl (by have:=HGS.out.2;omega) _ HR5.out).mono ?_;rintro e w6 ⟨rfl,M6,hr6,y⟩;have HR6:=Hh hr6;have HT6:=Hh (HT5.out.trans y);have H:=Hh ((y.block w.heap.size (by have:=HB5.out.size;omega) O.out).trans P.out);refine⟨iW.of H.out,dc ?_⟩;clear hr6 y;go_wp2;refine bodyPost_ret (results_none rfl _ _ _) rfl ?_;exact⟨rfl,M6,by rw[N.out];exact HR6.out,HT6.out⟩
  ·subst e;obtain⟨U,hU⟩:∃U:Int,x.a+(ms.length:Int)=U:=⟨_,rfl⟩
   have HU:=Hh (show IntKind.i64.wrap (x.a+(ms.length:Int))=U by rw[<-hU];exact IntWalk.i64_in _ (by have:=G.out;omega));have N:=Hh (show R.sent f x=({ S with commit:=max S.commit (min x.o U) }:aa).post f ⟨4,0,U,0,x.a,true,[],[]⟩ by rw[v.out];unfold aa.sent1;simp only[HE.out];rw[if_neg (by simp),if_neg (by simp),if_neg (by simp),<-hU,G.out])
   have hltW:w.heap.size<w3.heap.size:=by omega
   clear hU;clear c4 c8;have l2:=(aq T.out).2.2.1;have l6:=(aq T.out).2.2.2.2.2.2.1;have w9:=HU.out;go_wp2_with fail;clear l2 l6 w9;refine lT (S:=iW p w.heap.size t.lb x) ?_;intro I g;have n:=Hh (a1.out.below g);have s:=Hh ((g.block w.heap.size hltW).trans T.out);have hs20:=g.size;have d:iW p w.heap.size t.lb x I:=iW.of s.out;refine hT 0 77 d ?_;refine hT 1 78 d ?_;refine hT 5 82 d ?_;refine hT 7 84 d ?_;refine hT 2 79 d ?_;refine hT 6 83 d ?_;refine hT 3 80 d ?_;refine hV 8 85 (.int .i64 (min x.o U)) d ?_;have p2:I.cell? ⟨p,8,none⟩=some (.int .i64 S.commit):=by exact n.out.c rfl
   have f2:=n.out.f 8;have m:=Hh d;clear d;refine bp 4 ?_;go_simp;refine⟨m.out,?_⟩;refine bp 9 ?_;go_simp;refine⟨m.out,?_⟩;have d:=m.out;refine hT 10 87 d ?_;refine hT 11 88 d ?_;clear d;refine bp 12 ?_;refine aj 3 (.tmp 88) (.tmp 86) rfl p 8 (iz (max S.commit (min x.o U))) _ rfl rfl rfl (by kernel_rfl) p2 f2 ?_;obtain⟨w21,C⟩:∃w21,w21=I.setCell ⟨p,8,none⟩ (iz (max S.commit (min x.o U))):=⟨_,rfl⟩
   obtain⟨J,B⟩:=n.out.setCommit (max S.commit (min x.o U));rw[<-C]at J B ⊢;have HR21:=Hh J;have HT21:=Hh ((HT3.out.trans (.ofBelow g)).trans B);have r:=Hh ((B.block w.heap.size (by omega) O.out).trans s.out);clear C J B p2 f2 g;refine⟨iW.of r.out,dc ?_⟩;have l2:=(aq r.out).2.2.1;go_wp2_with fail;clear l2;refine(cO p { S with commit:=max S.commit (min x.o U) } t f ⟨4,0,U,0,x.a,true,[],[]⟩ rfl rfl (by show(S).out.length<=_;have:=HGS.out.2;omega) _ HR21.out).mono ?_;rintro e w22 ⟨rfl,M22,F,D⟩;have HR22:=Hh F;have HT22:=Hh (HT21.out.trans D);clear F D;go_wp2;go_end0;exact⟨rfl,M22,by rw[N.out];exact HR22.out,HT22.out⟩
  ·subst e;have hB0:=i.out.line.b0;have hgj:=i.out.line.join x.a x.u x.its;rw[HE.out]at hgj;have hjM:j<=1099511627776:=by have A:=(bP hgj).2;simp only at A;omega
   clear hgj hj hlast;by_cases Z:j<=S.commit
   ·have t0:decide (0<j)=true:=decide_eq_true (by omega);have t1:decide (j<=S.commit)=true:=decide_eq_true Z;have N:=Hh (show R.sent f x=S by
     rw[v.out];unfold aa.sent1;simp only[HE.out];rw[if_pos ⟨trivial,by omega,Z⟩])
    clear Z;go_wp2;refine bodyPost_ret (results_none rfl _ _ _) rfl ?_;exact⟨rfl,t,by rw[N.out];exact a1.out,HT3.out⟩
   have t0:decide (0<j)=true:=decide_eq_true (by omega);have t1:decide (j<=S.commit)=false:=decide_eq_false Z;obtain⟨X,hX⟩:∃X:ae,X={ S.line with l:=S.line.l.take (j-S.line.base-1).toNat++x.its.drop k }:=⟨_,rfl⟩
   rw[<-hX]at HLN3 HE;have HGX:=Hh (show X.Good by have A:=i.out.line.join x.a x.u x.its;rw[HE.out]at A;exact A);obtain⟨U,hU⟩:∃U:Int,x.a+(ms.length:Int)=U:=⟨_,rfl⟩
   have HU:=Hh (show IntKind.i64.wrap (x.a+(ms.length:Int))=U by rw[<-hU];exact IntWalk.i64_in _ (by have:=G.out;omega));obtain⟨R4,a0⟩:∃R4:aa,R4={ S with line:=X }:=⟨_,rfl⟩
   have N:=Hh (show R.sent f x=({ R4.noteItems j with commit:=max S.commit (min x.o U) }:aa).post f ⟨4,0,U,0,x.a,true,[],[]⟩ by rw[v.out,a0];unfold aa.sent1;simp only[HE.out];rw[if_neg (fun A=>Z A.2.2),if_neg (by simp),if_pos (by omega),<-hU,G.out];rfl)
   have HCM:=Hh (show(R4.noteItems j).commit=S.commit by rw[a0];rfl);have HOU:=Hh (show(R4.noteItems j).out=S.out by rw[a0];rfl);have HR4D:=Hh (show R4.line=X/\R4.news=S.news by rw[a0];exact⟨rfl,rfl⟩);have f4:=a1.out.f 4;obtain⟨a5,b5⟩:=HR1.out.relined HB3.out HLN3.out (Nat.le_refl _);obtain⟨w5,hw5⟩:∃w5,w5=w3.setCell ⟨p,4,none⟩ (.pointer (some ⟨q,0,none⟩)):=⟨_,rfl⟩
   rw[<-hw5]at a5 b5;rw[<-a0]at a5;obtain⟨M5,hM5⟩:∃M5:ay,M5={ t with lb:=q,la:=ja,lc:=jc,ms:=js }:=⟨_,rfl⟩
   rw[<-hM5]at a5 b5;have HR5:=Hh a5;have HT5:=Hh (HT1.out.trans b5);have P:=Hh ((b5.block w.heap.size (by omega) O.out).trans HBX1.out);have HNW5:=Hh (show ¬M5.own p w.heap.size from fun A=>by
    rcases b5.fresh _ A with h8 | h8
    ·exact O.out h8
    ·omega)
   have HW5:=Hh hw5;have hs5:=b5.size;clear hw5 a5 b5 hM5 a0 hX hU Z;go_wp2_with fail;rw[<-HW5.out];clear c4 c8 f4;refine(fW p R4 M5 j (by omega) hjM (by rw[HR4D.out.1];exact HGX.out) (by rw[HR4D.out.2];have:=HGS.out.1;omega) _ HR5.out).mono ?_;rintro e w6 ⟨rfl,M6,hr6,y⟩;have HR6:=Hh hr6;have HT6:=Hh (HT5.out.trans y);have H:=Hh ((y.block w.heap.size (by omega) HNW5.out).trans P.out);have HNW6:=Hh (show ¬M6.own p w.heap.size from fun A=>by
    rcases y.fresh _ A with h8 | h8
    ·exact HNW5.out h8
    ·omega)
   have hs6:=y.size;have hltW:w.heap.size<w6.heap.size:=by omega
   clear hr6 y;have l2:=(aq H.out).2.2.1;have l6:=(aq H.out).2.2.2.2.2.2.1;have w9:=HU.out;go_wp2_with fail;clear l2 l6 w9;refine lT (S:=iW p w.heap.size t.lb x) ?_;intro I g;have n:=Hh (HR6.out.below g);have s:=Hh ((g.block w.heap.size hltW).trans H.out);have hs20:=g.size;have d:iW p w.heap.size t.lb x I:=iW.of s.out;refine hT 0 77 d ?_;refine hT 1 78 d ?_;refine hT 5 82 d ?_;refine hT 7 84 d ?_;refine hT 2 79 d ?_;refine hT 6 83 d ?_;refine hT 3 80 d ?_;refine hV 8 85 (.int .i64 (min x.o U)) d ?_;have p2:I.cell? ⟨p,8,none⟩=some (.int .i64 S.commit):=by rw[<-HCM.out];exact n.out.c rfl
   have f2:=n.out.f 8;have m:=Hh d;clear d;refine bp 4 ?_;go_simp;refine⟨m.out,?_⟩;refine bp 9 ?_;go_simp;refine⟨m.out,?_⟩;have d:=m.out;refine hT 10 87 d ?_;refine hT 11 88 d ?_;clear d;refine bp 12 ?_;refine aj 3 (.tmp 88) (.tmp 86) rfl p 8 (iz (max S.commit (min x.o U))) _ rfl rfl rfl (by kernel_rfl) p2 f2 ?_;obtain⟨w21,C⟩:∃w21,w21=I.setCell ⟨p,8,none⟩ (iz (max S.commit (min x.o U))):=⟨_,rfl⟩
   obtain⟨J,B⟩:=n.out.setCommit (max S.commit (min x.o U));rw[<-C]at J B ⊢;have HR21:=Hh J;have HT21:=Hh ((HT6.out.trans (.ofBelow g)).trans B);have r:=Hh ((B.block w.heap.size (by omega) HNW6.out).trans s.out);clear C J B p2 f2 g;refine⟨iW.of r.out,dc ?_⟩;have l2:=(aq r.out).2.2.1;go_wp2_with fail;clear l2;refine(cO p { R4.noteItems j with commit:=max S.commit (min x.o U) } M6 f ⟨4,0,U,0,x.a,true,[],[]⟩ rfl rfl (by show(R4.noteItems j).out.length<=_;rw[HOU.out];have:=HGS.out.2;omega) _ HR21.out).mono ?_;rintro e w22 ⟨rfl,M22,F,D⟩;have HR22:=Hh F;have HT22:=Hh (HT21.out.trans D);clear F D;go_wp2;go_end0;exact⟨rfl,M22,by rw[N.out];exact HR22.out,HT22.out⟩
end
section
theorem ao.setState{w:World}{p:Nat}{R:aa}{M:ay}(h:ao w p R M){a:Option Addr}{c:Nat}{s:List UInt8}(n:cS w a c s):ao (w.setCell ⟨p,5,none⟩ (.slice a s.length c)) p { R with state:=s } { M with sa:=a,sc:=c }/\ah p M { M with sa:=a,sc:=c } w (w.setCell ⟨p,5,none⟩ (.slice a s.length c)):=by
 have b:∀k,k≠p->(w.setCell ⟨p,5,none⟩ (.slice a s.length c)).heap[k]? =w.heap[k]? :=fun k d=>Below.heap_setCell _ _ _ k d
 obtain⟨v,t,r,q, -⟩:=h.apart;have hT:ah p M { M with sa:=a,sc:=c } w (w.setCell ⟨p,5,none⟩ (.slice a s.length c)):=⟨rfl,rfl,rfl,by simp,fun k d i=>b k (fun e=>i (.inl e)),fun k d=> .inl d⟩
 have o:=heap_setCell_same w p 5 _ _ (.slice a s.length c) h.row;refine⟨⟨h.sv.cp rfl rfl rfl,?_,h.lnKeep hT (b _ v) fun k d=>b k (fun e=>t (by rw[<-e];exact d)),h.keeps hT n,aE h.nw fun g f=>b g (fun e=>by rw[al]at f;exact r (by rw[<-e];exact f)),fun m l=>h.keeps hT (h.nb m l),h.nq,aE h.ou fun g f=>b g (fun e=>by rw[al]at f;exact q (by rw[<-e];exact f)),h.oq,h.postKeep hT rfl rfl⟩,hT⟩;rw[o,<-bg (R:=R) (R':={ R with state:=s }) (M:=M) (M':={ M with sa:=a,sc:=c }) (j:=5) (x:= .slice a s.length c) (by omega) rfl rfl rfl rfl rfl]
 simp
structure nX (g:Nat) (x:ax) (W:World):Prop where
 l2:W.cell? ⟨g,2,none⟩=some (.int .i64 x.a)
 l3:W.cell? ⟨g,3,none⟩=some (.int .i64 x.u)
theorem nX.of{g:Nat}{x:ax}{b:Option Addr}{n a:Nat}{ba:Option Addr}{d:Nat}{w:World}(c:w.heap[g]? =some (.cells (aF x b n a ba d) 32 (0,0))):nX g x w:=
 let ⟨_,_,l2,l3,_⟩:=aq c
 ⟨l2,l3⟩
structure zl (p g:Nat) (c:Int) (x:ax) (W:World):Prop where
 l2:W.cell? ⟨g,2,none⟩=some (.int .i64 x.a)
 c8:W.cell? ⟨p,8,none⟩=some (.int .i64 c)
structure yK (p g lb:Nat) (x:ax) (W:World):Prop where
 l2:W.cell? ⟨g,2,none⟩=some (.int .i64 x.a)
 c4:W.cell? ⟨p,4,none⟩=some (.pointer (some ⟨lb,0,none⟩))
theorem oJ(p:Nat)(R:aa)(M:ay)(f:Int)(x:ax)(ia:Option Addr)(ic:Nat)(ms:List af)(ba:Option Addr)(bc:Nat)(hok:R.Ok)(hr:aO x=true)(hnw:R.news.length<=999990000)(ho:R.out.length<=999999000)(w:World)(h:ao w p R M)(hx:g9 w p M x ia ic ms ba bc):
  Calls Tryz.prog 49 #[.pointer (some ⟨p,0,none⟩), .int .i64 f, .agg (aF x ia ms.length ic ba bc)] w fun e w'=>e= .returned (.tuple #[])/\∃M',ao w' p (R.given f x) M'/\ah p M M' w w':=by
 obtain⟨-, -,⟨ha0,ha1⟩,⟨hu0,hu1⟩,⟨ho0,ho1⟩,hi16, -,hits, -⟩:=aH hr;have hlen:=hx.la.len;obtain⟨V,hV,hbV,hsV,hrV⟩:=jA w x ia ms.length ic ba bc;have hrf:=h.below hbV;have HR:=Hh hrf;have HB:=Hh hbV;have HV:=Hh hV;have HBX:=Hh hrV;have HNW:=Hh (h.notNew (Nat.le_refl w.heap.size));have HX:=Hh (hx.below hbV);have HOK:=Hh hok;have HLEN:=Hh hlen;have HITS:=Hh hits;obtain⟨S,b,hF⟩:∃S b,R.follows f x=(S,b):=⟨_,_,rfl⟩
 have HF:=Hh hF;have HOKS:=Hh (show S.Ok by have h9:=dw hok f x;rw[hF]at h9;exact h9);have HGS:=Hh (show S.news.length<=999990000/\S.out.length<=999999001 by
  have h9:aU 0 1 0 R S:=by have h8:=eQ R f x;rw[hF]at h8;exact h8
  exact⟨by have:=h9.1;omega,by have:=h9.2.1;omega⟩)
 obtain⟨l0,l1,l2,l3,l4,l5,l6,l7⟩:=aq hrV;rw[hV]at l0 l1 l2 l3 l4 l5 l6 l7;clear hrf hbV hV hrV h hok hx hlen hits hF;go_enter Tryz.func49,Tryz.ntmps49
 go_wp2_with fail;rw[<-HV.out];clear l0 l1 l2 l3 l4 l5 l6 l7;refine(li p R M f x ia ms.length ic ba bc (by omega) _ HR.out).mono ?_;rintro e w1 ⟨rfl,I,hr1,ht1⟩;rw[HF.out]at hr1 ⊢;have HR1:=Hh (show ao w1 p S I from hr1);have HT1:=Hh ((ah.ofBelow HB.out).trans ht1);have HBX1:=Hh ((ht1.block w.heap.size (by omega) HNW.out).trans HBX.out);have HX1:=Hh (HX.out.touch ht1);have hs1:=ht1.size;have Y:=Hh (show ¬I.own p w.heap.size from fun h9=>by
  rcases ht1.fresh _ h9 with h8 | h8
  ·exact HNW.out h8
  ·omega)
 clear hr1 ht1;cases b with
 | false=>have HFIN:=Hh (show R.given f x=S by unfold aa.given;rw[HF.out];rfl);go_wp2;refine bodyPost_ret (results_none rfl _ _ _) rfl ?_;exact⟨rfl,I,by rw[HFIN.out];exact HR1.out,HT1.out⟩
 | true=>
  have HFIN:=Hh (show R.given f x=S.given1 f x by unfold aa.given;rw[HF.out];rfl);have c8:w1.cell? ⟨p,8,none⟩=some (.int .i64 S.commit):=HR1.out.c rfl;have l2:=(aq HBX1.out).2.2.1;by_cases hle:x.a<=S.commit
  ·have t1:decide (x.a<=S.commit)=true:=decide_eq_true hle;have HFF:=Hh (show R.given f x=S.post f ⟨4,0,S.commit,0,x.a,true,[],[]⟩ by rw[HFIN.out];unfold aa.given1;rw[if_pos hle]);clear hle;go_wp2_with fail;go_quiet (fail)
   go_wp2_with fail;obtain⟨w2,hw2⟩:∃w2,w2=w1.drewN nq:=⟨_,rfl⟩
   rw[<-hw2];have H:Below w1.heap.size w1 w2:=by rw[hw2];exact below_drewN w1 nq
   have HR2:=Hh (HR1.out.below H);have HBX2:=Hh ((H.block w.heap.size (by omega)).trans HBX1.out);have HT2:=Hh (HT1.out.trans (.ofBelow H));have hs2:=H.size;clear hw2 H c8 l2;refine lT (S:=zl p w.heap.size S.commit x) ?_;intro w3 g;have HR3:=Hh (HR2.out.below g);have HBX3:=Hh ((g.block w.heap.size (by omega)).trans HBX2.out);have hs3:=g.size;have q:zl p w.heap.size S.commit x w3:=⟨(aq HBX3.out).2.2.1,HR3.out.c rfl⟩
   refine hT 0 20 q ?_;refine hT 1 21 q ?_;refine hT 2 22 q ?_;refine hT 6 26 q ?_;refine hT 3 23 q ?_;refine hT 7 27 q ?_;refine hT 4 24 q ?_;refine hT 5 25 q ?_;refine hV 8 28 (.agg (aF ⟨4,0,S.commit,0,x.a,true,[],[]⟩ none 0 0 none 0)) q ?_;clear q;refine bp 9 ?_;go_simp;refine(cO p S I f ⟨4,0,S.commit,0,x.a,true,[],[]⟩ rfl rfl (by have:=HGS.out.2;omega) _ HR3.out).mono ?_;rintro e w6 ⟨rfl,X,hr6,ht6⟩;have HR6:=Hh hr6;have HT6:=Hh (HT2.out.trans ((ah.ofBelow g).trans ht6));have G:=Hh ((ht6.block w.heap.size (by omega) Y.out).trans HBX3.out);refine⟨⟨(aq G.out).2.2.1,hr6.c rfl⟩,dc ?_⟩;clear hr6 ht6 g;go_wp2;refine bodyPost_ret (results_none rfl _ _ _) rfl ?_;exact⟨rfl,X,by rw[HFF.out];exact HR6.out,HT6.out⟩
  ·have t1:decide (x.a<=S.commit)=false:=decide_eq_false hle;have HFF:=Hh (show R.given f x=({ S with line:=S.giveLine x,commit:=x.a,applied:=x.a,state:=x.b,jumped:=true }:aa).post f ⟨4,0,x.a,0,x.a,true,[],[]⟩ by rw[HFIN.out];unfold aa.given1;rw[if_neg hle]);have HLE:=Hh hle;clear hle;go_wp2_with fail;go_quiet (fail)
   go_wp2_with fail;obtain⟨w2,hw2⟩:∃w2,w2=w1.drewN nq:=⟨_,rfl⟩
   rw[<-hw2];have H:Below w1.heap.size w1 w2:=by rw[hw2];exact below_drewN w1 nq
   have HR2:=Hh (HR1.out.below H);have HBX2:=Hh ((H.block w.heap.size (by omega)).trans HBX1.out);have HX2:=Hh (HX1.out.below H);have HT2:=Hh (HT1.out.trans (.ofBelow H));have hs2:=H.size;clear hw2 H c8 l2;refine lT (S:=yK p w.heap.size I.lb x) ?_;intro w3 g;have HR3:=Hh (HR2.out.below g);have HBX3:=Hh ((g.block w.heap.size (by omega)).trans HBX2.out);have hs3:=g.size;have q:yK p w.heap.size I.lb x w3:=⟨(aq HBX3.out).2.2.1,HR3.out.c rfl⟩
   refine hT 0 31 q ?_;refine hT 4 35 q ?_;refine hT 1 32 q ?_;refine hT 5 36 q ?_;refine hT 2 33 q ?_;refine hT 3 34 q ?_;clear q;refine bp 6 ?_;go_simp;refine(dx 0 I.lb S.line HOKS.out.line I.la I.lc I.ms x.a _ HR3.out.ln).mono ?_;rintro e w4 ⟨rfl,m4,hm4⟩;obtain⟨Tm,hTm⟩:∃Tm,(bk S.line x.a).1=Tm:=⟨_,rfl⟩
   obtain⟨Is,hIs⟩:∃Is,(bk S.line x.a).2=Is:=⟨_,rfl⟩
   rw[hTm,hIs];have HTI:=Hh (show(bk S.line x.a).1=Tm/\(bk S.line x.a).2=Is from⟨hTm,hIs⟩);have hb4:Below w2.heap.size w2 w4:=g.trans (by rw[hm4];exact(below_drewN w3 m4).mono hs3);have HR4:=Hh (HR2.out.below hb4);have a1:=Hh ((hb4.block w.heap.size (by omega)).trans HBX2.out);have HX4:=Hh (HX2.out.below hb4);have HT4:=Hh (HT2.out.trans (.ofBelow hb4));have hs4:=hb4.size;have hS4:yK p w.heap.size I.lb x w4:=⟨(aq a1.out).2.2.1,HR4.out.c rfl⟩
   clear hm4 hTm hIs hb4 g;refine⟨hS4,?_⟩;refine hT 7 30 hS4 ?_;refine hV 8 38 (.int .i64 Tm) hS4 ?_;refine hV 9 39 (.bool Is) hS4 ?_;refine hT 10 6 hS4 ?_;refine hT 11 7 hS4 ?_;refine dc ?_;clear hS4;have l3:=(aq a1.out).2.2.2.1;by_cases hdp:Is=true/\Tm=x.u
   ·have HLN:=Hh (show S.giveLine x=(S.line.drop x.a).1 by unfold aa.giveLine;rw[HTI.out.1,HTI.out.2,if_pos hdp]);have t2:(Tm==x.u)=true:=by simpa using hdp.2
    have hIs:=hdp.1;subst hIs;clear hdp;go_wp2_with fail;clear l3;refine lT (S:=yK p w.heap.size I.lb x) ?_;intro w5 g;have HR5:=Hh (HR4.out.below g);have HBX5:=Hh ((g.block w.heap.size (by omega)).trans a1.out);have hs5:=g.size;have hS5:yK p w.heap.size I.lb x w5:=⟨(aq HBX5.out).2.2.1,HR5.out.c rfl⟩
    refine hT 0 47 hS5 ?_;refine hT 4 51 hS5 ?_;refine hT 1 48 hS5 ?_;refine hT 5 52 hS5 ?_;refine hT 2 49 hS5 ?_;refine hT 3 50 hS5 ?_;clear hS5;refine bp 6 ?_;go_simp;refine(qQ 0 I.lb S.line HOKS.out.line I.la I.lc I.ms x.a _ HR5.out.ln (Nat.zero_le _)).mono ?_;rintro e w6 ⟨rfl,hl6⟩;obtain⟨la6,lc6,ms6,a6,O⟩:=HR5.out.lined hl6;obtain⟨X,a3⟩:∃X:ay,X={ I with la:=la6,lc:=lc6,ms:=ms6 }:=⟨_,rfl⟩
    rw[<-a3]at a6 O;have HR6:=Hh a6;have HT6:=Hh (HT4.out.trans ((ah.ofBelow g).trans O));have G:=Hh ((O.block w.heap.size (by omega) Y.out).trans HBX5.out);have HX6:=Hh ((HX4.out.below g).touch O);have z:=Hh (show ¬X.own p w.heap.size from fun h9=>by
     rcases O.fresh _ h9 with h8 | h8
     ·exact Y.out h8
     ·omega)
    have hs6:=O.size;have hltW:w.heap.size<w6.heap.size:=by omega
    have hS6:yK p w.heap.size I.lb x w6:=⟨(aq G.out).2.2.1,by have h9:w6.cell? ⟨p,4,none⟩=some (.pointer (some ⟨X.lb,0,none⟩)):=a6.c rfl;rw[a3]at h9;exact h9⟩
    refine⟨hS6,dc ?_⟩;clear hS6 a3 a6 O hl6 g;go_wp2_with fail;refine lT (S:=nX w.heap.size x) ?_;intro J g;have y:=Hh (HR6.out.below g);have A:=Hh ((g.block w.heap.size hltW).trans G.out);have HX20:=Hh (HX6.out.below g);have hs20:=g.size;have d:nX w.heap.size x J:=nX.of A.out;refine hT 0 62 d ?_;refine hT 1 63 d ?_;refine hT 2 64 d ?_;refine hT 4 66 d ?_;refine hT 3 65 d ?_;refine hT 5 67 d ?_;refine hT 6 68 d ?_;refine hT 7 69 d ?_;have p2:J.cell? ⟨p,8,none⟩=some (.int .i64 ({ S with line:=(S.line.drop x.a).1 }).commit):=y.out.c rfl;have f2:=y.out.f 8;clear d;refine bp 8 ?_;refine aj 3 (.tmp 69) (.tmp 65) rfl p 8 (iz x.a) _ rfl rfl rfl (by kernel_rfl) p2 f2 ?_;obtain⟨r,C⟩:∃r,r=J.setCell ⟨p,8,none⟩ (iz x.a):=⟨_,rfl⟩
    obtain⟨W,o⟩:=y.out.setCommit x.a;rw[<-C]at W o ⊢;have v:=Hh W;have HT21:=Hh ((HT6.out.trans (.ofBelow g)).trans o);have m:=Hh ((o.block w.heap.size (by omega) z.out).trans A.out);have HX21:=Hh (HX20.out.touch o);have hs21:=o.size;clear C W o p2 f2 g;refine⟨nX.of m.out,?_⟩;have s:nX w.heap.size x r:=nX.of m.out;refine hT 9 70 s ?_;refine hT 10 71 s ?_;clear s;have p2:r.cell? ⟨p,9,none⟩=some (.int .i64 ({ S with line:=(S.line.drop x.a).1 }).applied):=v.out.c rfl;have f2:=v.out.f 9;refine bp 11 ?_;refine aj 3 (.tmp 71) (.tmp 67) rfl p 9 (iz x.a) _ rfl rfl rfl (by kernel_rfl) p2 f2 ?_;obtain⟨w22,B⟩:∃w22,w22=r.setCell ⟨p,9,none⟩ (iz x.a):=⟨_,rfl⟩
    obtain⟨U,n⟩:=v.out.setApplied x.a;rw[<-B]at U n ⊢;have HR22:=Hh U;have HT22:=Hh (HT21.out.trans n);have l:=Hh ((n.block w.heap.size (by omega) z.out).trans m.out);have HX22:=Hh (HX21.out.touch n);have hs22:=n.size;clear B U n p2 f2;refine⟨nX.of l.out,dc ?_⟩;have l7:=(aq l.out).2.2.2.2.2.2.2;go_wp2_with fail;clear l7;refine(iU x.b ba bc _ HX22.out.la.b).mono ?_;rintro e w23 ⟨sa,sc,rfl,hby,j⟩;have k:=Hh (HR22.out.below j);have HT23:=Hh (HT22.out.trans (.ofBelow j));have a0:=Hh ((j.block w.heap.size (by omega)).trans l.out);have hs23:=j.size;obtain⟨a24,b24⟩:=k.out.setState hby;obtain⟨T,P⟩:=a24.setJumped true;obtain⟨w25,i⟩:∃w25,w25=(w23.setCell ⟨p,5,none⟩ (.slice sa x.b.length sc)).setCell ⟨p,32,none⟩ (.bool true):=⟨_,rfl⟩
    rw[<-i]at T P;have t:=b24.trans P;have HR25:=Hh T;have HT25:=Hh (HT23.out.trans t);have Z:=Hh ((t.block w.heap.size (by omega) z.out).trans a0.out);have L:=i;have HW25:=Hh i;have c5:w23.cell? ⟨p,5,none⟩=some (.slice (X).sa ({ S with line:=(S.line.drop x.a).1 }).state.length (X).sc):=k.out.c rfl;have f5:=k.out.f 5;have c32:=k.out.tails.1;have f32:=k.out.f 32;have l2:=(aq Z.out).2.2.1;rw[i]at l2;clear j hby a24 b24 T P t i L;go_wp2_with fail;rw[<-HW25.out];clear c5 f5 c32 f32 l2;refine(cO p { { S with line:=(S.line.drop x.a).1 } with commit:=x.a,applied:=x.a,state:=x.b,jumped:=true } { X with sa:=sa,sc:=sc } f ⟨4,0,x.a,0,x.a,true,[],[]⟩ rfl rfl (by show S.out.length<=_;have:=HGS.out.2;omega) _ HR25.out).mono ?_;rintro e w26 ⟨rfl,M26,F,D⟩;have HR26:=Hh F;have HT26:=Hh (HT25.out.trans D);clear F D;go_wp2;go_end0;exact⟨rfl,M26,by rw[HFF.out,HLN.out];exact HR26.out,HT26.out⟩
   ·have HLN:=Hh (show S.giveLine x=⟨x.a,x.u,[]⟩ by unfold aa.giveLine;rw[HTI.out.1,HTI.out.2,if_neg hdp]);have t2:Is=true->(Tm==x.u)=false:=fun h9=>by
     rw[beq_eq_false_iff_ne];exact fun h8=>hdp ⟨h9,h8⟩
    have f4:=HR4.out.f 4;have c4:w4.cell? ⟨p,4,none⟩=some (.pointer (some ⟨I.lb,0,none⟩)):=HR4.out.c rfl;have l2:=(aq a1.out).2.2.1;have HCOND:=Hh t2;clear hdp t2;cases Is with
    | true=>
    have t2:(Tm==x.u)=false:=HCOND.out rfl;go_wp2_with fail;clear l3 l2;refine(fS x.a x.u (by rw[iJ];omega) _).mono ?_;rintro e w5 ⟨rfl,N,a2,hs5⟩;have HLN5:=Hh N;obtain⟨a6,O⟩:=HR4.out.relined a2 N (Nat.le_refl _);obtain⟨X,a3⟩:∃X:ay,X={ I with lb:=w4.heap.size,la:=none,lc:=0,ms:= [] }:=⟨_,rfl⟩
    obtain⟨w6,hw6⟩:∃w6,w6=w5.setCell ⟨p,4,none⟩ (.pointer (some ⟨w4.heap.size,0,none⟩)):=⟨_,rfl⟩
    rw[<-a3,<-hw6]at a6 O;have HR6:=Hh a6;have HT6:=Hh (HT4.out.trans O);have G:=Hh ((O.block w.heap.size (by omega) Y.out).trans a1.out);have HX6:=Hh (HX4.out.touch O);have z:=Hh (show ¬X.own p w.heap.size from fun h9=>by
     rcases O.fresh _ h9 with h8 | h8
     ·exact Y.out h8
     ·omega)
    have hs6:=O.size;have hltW:w.heap.size<w6.heap.size:=by omega
    have HW6:=Hh hw6;have hpl:=HR4.out.lt;have c4':w5.cell? ⟨p,4,none⟩=some (.pointer (some ⟨I.lb,0,none⟩)):=(a2.cell (p:=⟨p,4,none⟩) hpl).trans c4;have f4':w5.frozen? ⟨p,4,none⟩=false:=(a2.frozen (p:=⟨p,4,none⟩) hpl).trans f4;clear c4 f4 a3 a6 O hw6 N;go_wp2_with fail;rw[<-HW6.out];clear c4' f4' a2;refine lT (S:=nX w.heap.size x) ?_;intro J g;have y:=Hh (HR6.out.below g);have A:=Hh ((g.block w.heap.size hltW).trans G.out);have HX20:=Hh (HX6.out.below g);have hs20:=g.size;have d:nX w.heap.size x J:=nX.of A.out;refine hT 0 62 d ?_;refine hT 1 63 d ?_;refine hT 2 64 d ?_;refine hT 4 66 d ?_;refine hT 3 65 d ?_;refine hT 5 67 d ?_;refine hT 6 68 d ?_;refine hT 7 69 d ?_;have p2:J.cell? ⟨p,8,none⟩=some (.int .i64 ({ S with line:=⟨x.a,x.u,[]⟩ }).commit):=y.out.c rfl;have f2:=y.out.f 8;clear d;refine bp 8 ?_;refine aj 3 (.tmp 69) (.tmp 65) rfl p 8 (iz x.a) _ rfl rfl rfl (by kernel_rfl) p2 f2 ?_;obtain⟨r,C⟩:∃r,r=J.setCell ⟨p,8,none⟩ (iz x.a):=⟨_,rfl⟩
    obtain⟨W,o⟩:=y.out.setCommit x.a;rw[<-C]at W o ⊢;have v:=Hh W;have HT21:=Hh ((HT6.out.trans (.ofBelow g)).trans o);have m:=Hh ((o.block w.heap.size (by omega) z.out).trans A.out);have HX21:=Hh (HX20.out.touch o);have hs21:=o.size;clear C W o p2 f2 g;refine⟨nX.of m.out,?_⟩;have s:nX w.heap.size x r:=nX.of m.out;refine hT 9 70 s ?_;refine hT 10 71 s ?_;clear s;have p2:r.cell? ⟨p,9,none⟩=some (.int .i64 ({ S with line:=⟨x.a,x.u,[]⟩ }).applied):=v.out.c rfl;have f2:=v.out.f 9;refine bp 11 ?_;refine aj 3 (.tmp 71) (.tmp 67) rfl p 9 (iz x.a) _ rfl rfl rfl (by kernel_rfl) p2 f2 ?_;obtain⟨w22,B⟩:∃w22,w22=r.setCell ⟨p,9,none⟩ (iz x.a):=⟨_,rfl⟩
    obtain⟨U,n⟩:=v.out.setApplied x.a;rw[<-B]at U n ⊢;have HR22:=Hh U;have HT22:=Hh (HT21.out.trans n);have l:=Hh ((n.block w.heap.size (by omega) z.out).trans m.out);have HX22:=Hh (HX21.out.touch n);have hs22:=n.size;clear B U n p2 f2;refine⟨nX.of l.out,dc ?_⟩;have l7:=(aq l.out).2.2.2.2.2.2.2;go_wp2_with fail;clear l7;refine(iU x.b ba bc _ HX22.out.la.b).mono ?_;rintro e w23 ⟨sa,sc,rfl,hby,j⟩;have k:=Hh (HR22.out.below j);have HT23:=Hh (HT22.out.trans (.ofBelow j));have a0:=Hh ((j.block w.heap.size (by omega)).trans l.out);have hs23:=j.size;obtain⟨a24,b24⟩:=k.out.setState hby;obtain⟨T,P⟩:=a24.setJumped true;obtain⟨w25,i⟩:∃w25,w25=(w23.setCell ⟨p,5,none⟩ (.slice sa x.b.length sc)).setCell ⟨p,32,none⟩ (.bool true):=⟨_,rfl⟩
    rw[<-i]at T P;have t:=b24.trans P;have HR25:=Hh T;have HT25:=Hh (HT23.out.trans t);have Z:=Hh ((t.block w.heap.size (by omega) z.out).trans a0.out);have L:=i;have HW25:=Hh i;have c5:w23.cell? ⟨p,5,none⟩=some (.slice (X).sa ({ S with line:=⟨x.a,x.u,[]⟩ }).state.length (X).sc):=k.out.c rfl;have f5:=k.out.f 5;have c32:=k.out.tails.1;have f32:=k.out.f 32;have l2:=(aq Z.out).2.2.1;rw[i]at l2;clear j hby a24 b24 T P t i L;go_wp2_with fail;rw[<-HW25.out];clear c5 f5 c32 f32 l2;refine(cO p { { S with line:=⟨x.a,x.u,[]⟩ } with commit:=x.a,applied:=x.a,state:=x.b,jumped:=true } { X with sa:=sa,sc:=sc } f ⟨4,0,x.a,0,x.a,true,[],[]⟩ rfl rfl (by show S.out.length<=_;have:=HGS.out.2;omega) _ HR25.out).mono ?_;rintro e w26 ⟨rfl,M26,F,D⟩;have HR26:=Hh F;have HT26:=Hh (HT25.out.trans D);clear F D;go_wp2;go_end0;exact⟨rfl,M26,by rw[HFF.out,HLN.out];exact HR26.out,HT26.out⟩
    | false=>
    go_wp2_with fail;clear l3 l2;refine(fS x.a x.u (by rw[iJ];omega) _).mono ?_;rintro e w5 ⟨rfl,N,a2,hs5⟩;have HLN5:=Hh N;obtain⟨a6,O⟩:=HR4.out.relined a2 N (Nat.le_refl _);obtain⟨X,a3⟩:∃X:ay,X={ I with lb:=w4.heap.size,la:=none,lc:=0,ms:= [] }:=⟨_,rfl⟩
    obtain⟨w6,hw6⟩:∃w6,w6=w5.setCell ⟨p,4,none⟩ (.pointer (some ⟨w4.heap.size,0,none⟩)):=⟨_,rfl⟩
    rw[<-a3,<-hw6]at a6 O;have HR6:=Hh a6;have HT6:=Hh (HT4.out.trans O);have G:=Hh ((O.block w.heap.size (by omega) Y.out).trans a1.out);have HX6:=Hh (HX4.out.touch O);have z:=Hh (show ¬X.own p w.heap.size from fun h9=>by
     rcases O.fresh _ h9 with h8 | h8
     ·exact Y.out h8
     ·omega)
    have hs6:=O.size;have hltW:w.heap.size<w6.heap.size:=by omega
    have HW6:=Hh hw6;have hpl:=HR4.out.lt;have c4':w5.cell? ⟨p,4,none⟩=some (.pointer (some ⟨I.lb,0,none⟩)):=(a2.cell (p:=⟨p,4,none⟩) hpl).trans c4;have f4':w5.frozen? ⟨p,4,none⟩=false:=(a2.frozen (p:=⟨p,4,none⟩) hpl).trans f4;clear c4 f4 a3 a6 O hw6 N;go_wp2_with fail;rw[<-HW6.out];clear c4' f4' a2;refine lT (S:=nX w.heap.size x) ?_;intro J g;have y:=Hh (HR6.out.below g);have A:=Hh ((g.block w.heap.size hltW).trans G.out);have HX20:=Hh (HX6.out.below g);have hs20:=g.size;have d:nX w.heap.size x J:=nX.of A.out;refine hT 0 62 d ?_;refine hT 1 63 d ?_;refine hT 2 64 d ?_;refine hT 4 66 d ?_;refine hT 3 65 d ?_;refine hT 5 67 d ?_;refine hT 6 68 d ?_;refine hT 7 69 d ?_;have p2:J.cell? ⟨p,8,none⟩=some (.int .i64 ({ S with line:=⟨x.a,x.u,[]⟩ }).commit):=y.out.c rfl;have f2:=y.out.f 8;clear d;refine bp 8 ?_;refine aj 3 (.tmp 69) (.tmp 65) rfl p 8 (iz x.a) _ rfl rfl rfl (by kernel_rfl) p2 f2 ?_;obtain⟨r,C⟩:∃r,r=J.setCell ⟨p,8,none⟩ (iz x.a):=⟨_,rfl⟩
    obtain⟨W,o⟩:=y.out.setCommit x.a;rw[<-C]at W o ⊢;have v:=Hh W;have HT21:=Hh ((HT6.out.trans (.ofBelow g)).trans o);have m:=Hh ((o.block w.heap.size (by omega) z.out).trans A.out);have HX21:=Hh (HX20.out.touch o);have hs21:=o.size;clear C W o p2 f2 g;refine⟨nX.of m.out,?_⟩;have s:nX w.heap.size x r:=nX.of m.out;refine hT 9 70 s ?_;refine hT 10 71 s ?_;clear s;have p2:r.cell? ⟨p,9,none⟩=some (.int .i64 ({ S with line:=⟨x.a,x.u,[]⟩ }).applied):=v.out.c rfl;have f2:=v.out.f 9;refine bp 11 ?_;refine aj 3 (.tmp 71) (.tmp 67) rfl p 9 (iz x.a) _ rfl rfl rfl (by kernel_rfl) p2 f2 ?_;obtain⟨w22,B⟩:∃w22,w22=r.setCell ⟨p,9,none⟩ (iz x.a):=⟨_,rfl⟩
    obtain⟨U,n⟩:=v.out.setApplied x.a;rw[<-B]at U n ⊢;have HR22:=Hh U;have HT22:=Hh (HT21.out.trans n);have l:=Hh ((n.block w.heap.size (by omega) z.out).trans m.out);have HX22:=Hh (HX21.out.touch n);have hs22:=n.size;clear B U n p2 f2;refine⟨nX.of l.out,dc ?_⟩;have l7:=(aq l.out).2.2.2.2.2.2.2;go_wp2_with fail;clear l7;refine(iU x.b ba bc _ HX22.out.la.b).mono ?_;rintro e w23 ⟨sa,sc,rfl,hby,j⟩;have k:=Hh (HR22.out.below j);have HT23:=Hh (HT22.out.trans (.ofBelow j));have a0:=Hh ((j.block w.heap.size (by omega)).trans l.out);have hs23:=j.size;obtain⟨a24,b24⟩:=k.out.setState hby;obtain⟨T,P⟩:=a24.setJumped true;obtain⟨w25,i⟩:∃w25,w25=(w23.setCell ⟨p,5,none⟩ (.slice sa x.b.length sc)).setCell ⟨p,32,none⟩ (.bool true):=⟨_,rfl⟩
    rw[<-i]at T P;have t:=b24.trans P;have HR25:=Hh T;have HT25:=Hh (HT23.out.trans t);have Z:=Hh ((t.block w.heap.size (by omega) z.out).trans a0.out);have L:=i;have HW25:=Hh i;have c5:w23.cell? ⟨p,5,none⟩=some (.slice (X).sa ({ S with line:=⟨x.a,x.u,[]⟩ }).state.length (X).sc):=k.out.c rfl;have f5:=k.out.f 5;have c32:=k.out.tails.1;have f32:=k.out.f 32;have l2:=(aq Z.out).2.2.1;rw[i]at l2;clear j hby a24 b24 T P t i L;go_wp2_with fail;rw[<-HW25.out];clear c5 f5 c32 f32 l2;refine(cO p { { S with line:=⟨x.a,x.u,[]⟩ } with commit:=x.a,applied:=x.a,state:=x.b,jumped:=true } { X with sa:=sa,sc:=sc } f ⟨4,0,x.a,0,x.a,true,[],[]⟩ rfl rfl (by show S.out.length<=_;have:=HGS.out.2;omega) _ HR25.out).mono ?_;rintro e w26 ⟨rfl,M26,F,D⟩;have HR26:=Hh F;have HT26:=Hh (HT25.out.trans D);clear F D;go_wp2;go_end0;exact⟨rfl,M26,by rw[HFF.out,HLN.out];exact HR26.out,HT26.out⟩
end
section
structure yy (g:Nat) (x:ax) (W:World):Prop where
 l1:W.cell? ⟨g,1,none⟩=some (.int .i64 x.t)
theorem rY(p:Nat)(R:aa)(M:ay)(f:Int)(x:ax)(ia:Option Addr)(ic:Nat)(ms:List af)(ba:Option Addr)(bc:Nat)(hok:R.Ok)(hml:ms.length<=100000)(hnw:R.news.length<=999980000)(ho:R.out.length<=999998000)(w:World)(h:ao w p R M)(hx:g9 w p M x ia ic ms ba bc):
  Calls Tryz.prog 12 #[.pointer (some ⟨p,0,none⟩), .int .i64 f, .agg (aF x ia ms.length ic ba bc)] w fun e w'=>e= .returned (.tuple #[])/\∃M',ao w' p (R.handle f x) M'/\ah p M M' w w':=by
 obtain⟨V,hV,hbV,hsV,hrV⟩:=jA w x ia ms.length ic ba bc;have hrf:=h.below hbV;have c0:(w.alloc (.cells (aF x ia ms.length ic ba bc) 32)).cell? ⟨p,0,none⟩=some (.int .i64 R.me):=by rw[<-hV];exact hrf.c rfl
 have c1:(w.alloc (.cells (aF x ia ms.length ic ba bc) 32)).cell? ⟨p,1,none⟩=some (.int .i64 R.n):=by rw[<-hV];exact hrf.c rfl
 obtain⟨U,C,T,P,O,N,L,J⟩:=aq hrV;rw[hV]at U C T P O N L J;have HR:=Hh hrf;have HB:=Hh hbV;have HV:=Hh hV;have HBX:=Hh hrV;have HNW:=Hh (h.notNew (Nat.le_refl w.heap.size));have HX:=Hh (hx.below hbV);have HOK:=Hh hok;have hm0:=hok.me0;have hmn:=hok.men;have hn7:=hok.n7;clear hrf hbV hV hrV h hok hx;by_cases h1:f<0
 ·have t1:decide (f<0)=true:=decide_eq_true h1;have b:=Hh (show R.handle f x=R by unfold aa.handle;rw[if_pos (.inl h1)]);clear h1;go_enter Tryz.func12,Tryz.ntmps12
  go_wp2_with fail;rw[<-HV.out];refine bodyPost_ret (results_none rfl _ _ _) rfl ?_;exact⟨rfl,M,by rw[b.out];exact HR.out, .ofBelow HB.out⟩
 have t1:decide (f<0)=false:=decide_eq_false h1;by_cases h2:R.n<=f
 ·have t2:decide (R.n<=f)=true:=decide_eq_true h2;have b:=Hh (show R.handle f x=R by unfold aa.handle;rw[if_pos (.inr (.inl h2))]);clear h2;go_enter Tryz.func12,Tryz.ntmps12
  go_wp2_with fail;rw[<-HV.out];refine bodyPost_ret (results_none rfl _ _ _) rfl ?_;exact⟨rfl,M,by rw[b.out];exact HR.out, .ofBelow HB.out⟩
 have t2:decide (R.n<=f)=false:=decide_eq_false h2;by_cases h3:f=R.me
 ·have t3:(f==R.me)=true:=by simpa using h3
  have b:=Hh (show R.handle f x=R by unfold aa.handle;rw[if_pos (.inr (.inr (.inl h3)))]);clear h3;go_enter Tryz.func12,Tryz.ntmps12
  go_wp2_with fail;rw[<-HV.out];refine bodyPost_ret (results_none rfl _ _ _) rfl ?_;exact⟨rfl,M,by rw[b.out];exact HR.out, .ofBelow HB.out⟩
 have t3:(f==R.me)=false:=by simpa using h3
 obtain⟨j,hfe⟩:∃j:Nat,f=j:=⟨f.toNat,by omega⟩
 have hf7:j<7:=by omega
 have hfn:(j:Int)<R.n:=by omega
 subst hfe;have HNE:=Hh (show ¬((j:Int)<0\/R.n<=j\/(j:Int)=R.me) from fun A=>by rcases A with A | A | A<;>omega);clear h1 h2 h3;go_enter Tryz.func12,Tryz.ntmps12
 go_wp2_with fail;rw[<-HV.out];clear c0 c1 U C T P O N L J t1 t2 t3;refine(ik x ia ic ms ba bc hml _ HX.out.la).mono ?_;rintro e w1 ⟨rfl,a2⟩;have HR1:=Hh (HR.out.below a2);have HX1:=Hh (HX.out.below a2);have X:=Hh ((a2.block w.heap.size (by omega)).trans HBX.out);have HT1:=Hh (show ah p M M w w1 from(ah.ofBelow HB.out).trans (.ofBelow a2));have hs1:=a2.size;clear a2;cases hr:aO x with
 | false=>have b:=Hh (show R.handle j x=R by unfold aa.handle;rw[if_pos (.inr (.inr (.inr hr)))]);clear hr;go_wp2;refine bodyPost_ret (results_none rfl _ _ _) rfl ?_;exact⟨rfl,M,by rw[b.out];exact HR1.out,HT1.out⟩
 | true=>
  obtain⟨⟨z,y⟩,⟨ht0,htm⟩, -⟩:=aH hr;have HH:=Hh (show R.handle j x=(R.stepUp x.t).heard j x by
   unfold aa.handle;rw[if_neg (fun A=>by
    rcases A with A | A | A | A
    ·exact HNE.out (.inl A)
    ·exact HNE.out (.inr (.inl A))
    ·exact HNE.out (.inr (.inr A))
    ·rw[hr]at A;cases A)])
  have c2:w1.cell? ⟨p,2,none⟩=some (.int .i64 R.bt):=HR1.out.c rfl;have C:=(aq X.out).2.1;by_cases F:R.bt<x.t
  ·have t4:decide (R.bt<x.t)=true:=decide_eq_true F;obtain⟨R2,hR2⟩:∃R2:aa,R2={ R with bt:=x.t,bf:= -1 }:=⟨_,rfl⟩
   obtain⟨D,hR3⟩:∃D:aa,D={ R2.noteBallot with role:=0,lead:= -1 }:=⟨_,rfl⟩
   have r:=Hh (show R.stepUp x.t=D by unfold aa.stepUp;rw[if_pos F,hR3,hR2]);have a:=Hh (show D.Ok by rw[<-r.out];exact gp HOK.out htm);have HSN:=Hh (show D.n=R.n by rw[<-r.out];exact(oF R x.t).1);have o:=Hh (show D.news.length<=999980001/\D.out.length<=999998000 by have A:=kt R x.t;rw[r.out]at A;exact⟨by have:=A.1;omega,by have:=A.2.1;omega⟩)
   have HR2:=Hh (show R2.bt=x.t/\R2.bf= -1/\R2.news=R.news by rw[hR2];exact⟨rfl,rfl,rfl⟩);have HST2:=Hh (show mG R.bt x.t=x.t/\mH R.bt R.bf x.t= -1 by unfold mG mH;rw[if_pos F,if_pos F];exact⟨rfl,rfl⟩);clear F;go_wp2_with fail;go_quiet (fail)
   go_wp2_with fail;obtain⟨w2,W⟩:∃w2,w2=w1.drewN nq:=⟨_,rfl⟩
   rw[<-W];have s:Below w1.heap.size w1 w2:=by rw[W];exact below_drewN w1 nq
   have v:=Hh (HR1.out.below s);have HBX2:=Hh ((s.block w.heap.size (by omega)).trans X.out);have HX2:=Hh (HX1.out.below s);have HT2:=Hh (HT1.out.trans (.ofBelow s));have hs2:=s.size;clear W s c2 C;refine lT (S:=yy w.heap.size x) ?_;intro w3 a0;have HRw3:=Hh (v.out.below a0);have HBX3:=Hh ((a0.block w.heap.size (by omega)).trans HBX2.out);have HX3:=Hh (HX2.out.below a0);have HT3:=Hh (HT2.out.trans (.ofBelow a0));have hs3:=a0.size;have G:yy w.heap.size x w3:=⟨(aq HBX3.out).2.1⟩
   refine hT 0 37 G ?_;refine hT 1 38 G ?_;refine hT 5 42 G ?_;refine hT 2 39 G ?_;refine hT 6 43 G ?_;refine hT 3 40 G ?_;have HS3:=Hh G;clear G a0;have c2:w3.cell? ⟨p,2,none⟩=some (.int .i64 R.bt):=HRw3.out.c rfl;have c3:w3.cell? ⟨p,3,none⟩=some (.int .i64 R.bf):=HRw3.out.c rfl;refine bp 4 ?_;go_simp;refine⟨HS3.out,?_⟩;clear c2 c3;refine bp 7 ?_;go_simp;refine(my R.bt R.bf x.t _).mono ?_;rintro e w4 ⟨rfl,a1⟩;rw[HST2.out.1,HST2.out.2];have I:=Hh (HRw3.out.below a1);have HBX4:=Hh ((a1.block w.heap.size (by omega)).trans HBX3.out);have HX4:=Hh (HX3.out.below a1);have HT4:=Hh (HT3.out.trans (.ofBelow a1));have hs4:=a1.size;have hS4:yy w.heap.size x w4:=⟨(aq HBX4.out).2.1⟩
   clear a1;refine⟨hS4,?_⟩;refine hT 8 45 hS4 ?_;refine hT 9 46 hS4 ?_;clear hS4;have c2:w4.cell? ⟨p,2,none⟩=some (.int .i64 R.bt):=I.out.c rfl;have c3:w4.cell? ⟨p,3,none⟩=some (.int .i64 R.bf):=I.out.c rfl;have f2:=I.out.f 2;have f3:=I.out.f 3;obtain⟨a5,b5⟩:=I.out.setBallot x.t (-1);obtain⟨w5,hw5⟩:∃w5,w5=(w4.setCell ⟨p,2,none⟩ (.int .i64 x.t)).setCell ⟨p,3,none⟩ (.int .i64 (-1)):=⟨_,rfl⟩
   rw[show iz x.t= .int .i64 x.t from rfl,show iz (-1)= .int .i64 (-1) from rfl,<-hw5]at a5 b5;rw[<-hR2]at a5;have HW5:=Hh hw5;have HRw5:=Hh a5;have HBX5:=Hh ((b5.block w.heap.size (by omega) HNW.out).trans HBX4.out);have HX5:=Hh (HX4.out.touch b5);have q:=Hh (HT4.out.trans b5);have hs5:=b5.size;clear hw5 a5 b5 hR2;refine bp 10 ?_;go_simp;rw[<-HW5.out];clear c2 c3 f2 f3;refine⟨⟨(aq HBX5.out).2.1⟩,dc ?_⟩;go_wp2_with fail;refine(fI p R2 M (by rw[HR2.out.1];exact ht0) (by rw[HR2.out.1];exact htm) (by rw[HR2.out.2.1];omega) (by rw[HR2.out.2.1];omega) (by rw[HR2.out.2.2];omega) _ HRw5.out).mono ?_;rintro e w6 ⟨rfl,M6,Z,Y⟩;have HBX6:=Hh ((Y.block w.heap.size (by omega) HNW.out).trans HBX5.out);have HNW6:=Hh (show ¬M6.own p w.heap.size from fun A=>by
    rcases Y.fresh _ A with h8 | h8
    ·exact HNW.out h8
    ·omega)
   have HX6:=Hh (HX5.out.touch Y);have hs6:=Y.size;obtain⟨a7,b7⟩:=Z.setRole 0;obtain⟨a8,b8⟩:=a7.setLead (-1);obtain⟨w8,hw8⟩:∃w8,w8=(w6.setCell ⟨p,6,none⟩ (iz 0)).setCell ⟨p,7,none⟩ (iz (-1)):=⟨_,rfl⟩
   rw[<-hw8]at a8 b8;have b78:=b7.trans b8;have H:=Hh (show ao w8 p D M6 by rw[hR3];exact a8);have HBX8:=Hh ((b78.block w.heap.size (by omega) HNW6.out).trans HBX6.out);have HX8:=Hh (HX6.out.touch b78);have HT8:=Hh ((q.out.trans Y).trans b78);have HW8:=Hh hw8;have c6:w6.cell? ⟨p,6,none⟩=some (.int .i64 R2.noteBallot.role):=Z.c rfl;have c7:w6.cell? ⟨p,7,none⟩=some (.int .i64 R2.noteBallot.lead):=Z.c rfl;have f6:=Z.f 6;have f7:=Z.f 7;obtain⟨U,C,T,P,O,N,L,J⟩:=aq HBX8.out;rw[hw8]at U C T P O N L J;clear Z Y a7 b7 a8 b8 b78 hw8 hR3 q;have q:=HT8;rcases (show x.k=1\/x.k=2\/x.k=3\/x.k=4\/x.k=5 by omega) with i | i | i | i | i
   ·have b:=Hh (show R.handle j x=(D).asked j x by rw[HH.out,r.out];unfold aa.heard;rw[if_pos i]);have t1:(x.k==1)=true:=by rw[i];rfl
    clear i z y;go_wp2_with fail;rw[<-HW8.out];clear c6 c7 f6 f7 U C T P O N L J;refine(oL p (D) M6 j x ia ms.length ic ba bc a.out.bt0 a.out.bt1 a.out.bf0 a.out.bf1 a.out.line (by have:=o.out.1;omega) (by have:=o.out.2;omega) _ H.out).mono ?_;rintro e w9 ⟨rfl,B,g,d⟩;have m:=Hh g;have l:=Hh (q.out.trans d);clear g d;go_wp2;go_end0;exact⟨rfl,B,by rw[b.out];exact m.out,l.out⟩
   ·have b:=Hh (show R.handle j x=(D).said j x by rw[HH.out,r.out];unfold aa.heard;rw[if_neg (by omega)];rw[if_pos i]);have t1:(x.k==1)=false:=by rw[i];rfl
    have t2:(x.k==2)=true:=by rw[i];rfl
    clear i z y;go_wp2_with fail;rw[<-HW8.out];clear c6 c7 f6 f7 U C T P O N L J;refine(qu p (D) M6 j hf7 x ia ms.length ic ba bc a.out.n1 a.out.n7 a.out.me0 a.out.men a.out.line a.out.vs (by have:=o.out.1;omega) (by have:=o.out.2;omega) _ H.out).mono ?_;rintro e w9 ⟨rfl,B,g,d⟩;have m:=Hh g;have l:=Hh (q.out.trans d);clear g d;go_wp2;go_end0;exact⟨rfl,B,by rw[b.out];exact m.out,l.out⟩
   ·have b:=Hh (show R.handle j x=(D).sent j x by rw[HH.out,r.out];unfold aa.heard;rw[if_neg (by omega)];rw[if_neg (by omega)];rw[if_pos i]);have t1:(x.k==1)=false:=by rw[i];rfl
    have t2:(x.k==2)=false:=by rw[i];rfl
    have t3:(x.k==3)=true:=by rw[i];rfl
    clear i z y;go_wp2_with fail;rw[<-HW8.out];clear c6 c7 f6 f7 U C T P O N L J;refine(qt p (D) M6 j x ia ic ms ba bc a.out hr (by have:=o.out.1;omega) (by have:=o.out.2;omega) _ H.out HX8.out).mono ?_;rintro e w9 ⟨rfl,B,g,d⟩;have m:=Hh g;have l:=Hh (q.out.trans d);clear g d;go_wp2;go_end0;exact⟨rfl,B,by rw[b.out];exact m.out,l.out⟩
   ·have b:=Hh (show R.handle j x=(D).got j x by rw[HH.out,r.out];unfold aa.heard;rw[if_neg (by omega)];rw[if_neg (by omega)];rw[if_neg (by omega)];rw[if_pos i]);have t1:(x.k==1)=false:=by rw[i];rfl
    have t2:(x.k==2)=false:=by rw[i];rfl
    have t3:(x.k==3)=false:=by rw[i];rfl
    have t4:(x.k==4)=true:=by rw[i];rfl
    clear i z y;go_wp2_with fail;rw[<-HW8.out];clear c6 c7 f6 f7 U C T P O N L J;refine(sY p (D) M6 j x ia ms.length ic ba bc a.out (by rw[HSN.out];exact hfn) hr (by have:=o.out.2;omega) _ H.out).mono ?_;rintro e w9 ⟨rfl,B,g,d⟩;have m:=Hh g;have l:=Hh (q.out.trans d);clear g d;go_wp2;go_end0;exact⟨rfl,B,by rw[b.out];exact m.out,l.out⟩
   ·have b:=Hh (show R.handle j x=(D).given j x by rw[HH.out,r.out];unfold aa.heard;rw[if_neg (by omega)];rw[if_neg (by omega)];rw[if_neg (by omega)];rw[if_neg (by omega)];rw[if_pos i]);have t1:(x.k==1)=false:=by rw[i];rfl
    have t2:(x.k==2)=false:=by rw[i];rfl
    have t3:(x.k==3)=false:=by rw[i];rfl
    have t4:(x.k==4)=false:=by rw[i];rfl
    have t5:(x.k==5)=true:=by rw[i];rfl
    clear i z y;go_wp2_with fail;rw[<-HW8.out];clear c6 c7 f6 f7 U C T P O N L J;refine(oJ p (D) M6 j x ia ic ms ba bc a.out hr (by have:=o.out.1;omega) (by have:=o.out.2;omega) _ H.out HX8.out).mono ?_;rintro e w9 ⟨rfl,B,g,d⟩;have m:=Hh g;have l:=Hh (q.out.trans d);clear g d;go_wp2;go_end0;exact⟨rfl,B,by rw[b.out];exact m.out,l.out⟩
  ·have t4:decide (R.bt<x.t)=false:=decide_eq_false F;have r:=Hh (show R.stepUp x.t=R by unfold aa.stepUp;rw[if_neg F]);have a:=HOK;have HSN:=Hh (rfl:(0:Nat)=0);have o:=Hh (show R.news.length<=999980001/\R.out.length<=999998000 by omega);clear F;go_wp2_with fail;go_quiet (fail)
   obtain⟨w2,W⟩:∃w2,w2=w1.drewN nq:=⟨_,rfl⟩
   have s:Below w1.heap.size w1 w2:=by rw[W];exact below_drewN w1 nq
   have v:=Hh (HR1.out.below s);have HBX2:=Hh ((s.block w.heap.size (by omega)).trans X.out);have HX2:=Hh (HX1.out.below s);have HT2:=Hh (HT1.out.trans (.ofBelow s));have hs2:=s.size;have HW2:=Hh W;clear W s c2 C;obtain⟨U,C,T,P,O,N,L,J⟩:=aq X.out;have q:=HT2;rcases (show x.k=1\/x.k=2\/x.k=3\/x.k=4\/x.k=5 by omega) with i | i | i | i | i
   ·have b:=Hh (show R.handle j x=(R).asked j x by rw[HH.out,r.out];unfold aa.heard;rw[if_pos i]);have t1:(x.k==1)=true:=by rw[i];rfl
    clear i z y;go_wp2_with fail;rw[<-HW2.out];clear U C T P O N L J;refine(oL p (R) M j x ia ms.length ic ba bc a.out.bt0 a.out.bt1 a.out.bf0 a.out.bf1 a.out.line (by have:=o.out.1;omega) (by have:=o.out.2;omega) _ v.out).mono ?_;rintro e w9 ⟨rfl,B,g,d⟩;have m:=Hh g;have l:=Hh (q.out.trans d);clear g d;go_wp2;go_end0;exact⟨rfl,B,by rw[b.out];exact m.out,l.out⟩
   ·have b:=Hh (show R.handle j x=(R).said j x by rw[HH.out,r.out];unfold aa.heard;rw[if_neg (by omega)];rw[if_pos i]);have t1:(x.k==1)=false:=by rw[i];rfl
    have t2:(x.k==2)=true:=by rw[i];rfl
    clear i z y;go_wp2_with fail;rw[<-HW2.out];clear U C T P O N L J;refine(qu p (R) M j hf7 x ia ms.length ic ba bc a.out.n1 a.out.n7 a.out.me0 a.out.men a.out.line a.out.vs (by have:=o.out.1;omega) (by have:=o.out.2;omega) _ v.out).mono ?_;rintro e w9 ⟨rfl,B,g,d⟩;have m:=Hh g;have l:=Hh (q.out.trans d);clear g d;go_wp2;go_end0;exact⟨rfl,B,by rw[b.out];exact m.out,l.out⟩
   ·have b:=Hh (show R.handle j x=(R).sent j x by rw[HH.out,r.out];unfold aa.heard;rw[if_neg (by omega)];rw[if_neg (by omega)];rw[if_pos i]);have t1:(x.k==1)=false:=by rw[i];rfl
    have t2:(x.k==2)=false:=by rw[i];rfl
    have t3:(x.k==3)=true:=by rw[i];rfl
    clear i z y;go_wp2_with fail;rw[<-HW2.out];clear U C T P O N L J;refine(qt p (R) M j x ia ic ms ba bc a.out hr (by have:=o.out.1;omega) (by have:=o.out.2;omega) _ v.out HX2.out).mono ?_;rintro e w9 ⟨rfl,B,g,d⟩;have m:=Hh g;have l:=Hh (q.out.trans d);clear g d;go_wp2;go_end0;exact⟨rfl,B,by rw[b.out];exact m.out,l.out⟩
   ·have b:=Hh (show R.handle j x=(R).got j x by rw[HH.out,r.out];unfold aa.heard;rw[if_neg (by omega)];rw[if_neg (by omega)];rw[if_neg (by omega)];rw[if_pos i]);have t1:(x.k==1)=false:=by rw[i];rfl
    have t2:(x.k==2)=false:=by rw[i];rfl
    have t3:(x.k==3)=false:=by rw[i];rfl
    have t4:(x.k==4)=true:=by rw[i];rfl
    clear i z y;go_wp2_with fail;rw[<-HW2.out];clear U C T P O N L J;refine(sY p (R) M j x ia ms.length ic ba bc a.out hfn hr (by have:=o.out.2;omega) _ v.out).mono ?_;rintro e w9 ⟨rfl,B,g,d⟩;have m:=Hh g;have l:=Hh (q.out.trans d);clear g d;go_wp2;go_end0;exact⟨rfl,B,by rw[b.out];exact m.out,l.out⟩
   ·have b:=Hh (show R.handle j x=(R).given j x by rw[HH.out,r.out];unfold aa.heard;rw[if_neg (by omega)];rw[if_neg (by omega)];rw[if_neg (by omega)];rw[if_neg (by omega)];rw[if_pos i]);have t1:(x.k==1)=false:=by rw[i];rfl
    have t2:(x.k==2)=false:=by rw[i];rfl
    have t3:(x.k==3)=false:=by rw[i];rfl
    have t4:(x.k==4)=false:=by rw[i];rfl
    have t5:(x.k==5)=true:=by rw[i];rfl
    clear i z y;go_wp2_with fail;rw[<-HW2.out];clear U C T P O N L J;refine(oJ p (R) M j x ia ic ms ba bc a.out hr (by have:=o.out.1;omega) (by have:=o.out.2;omega) _ v.out HX2.out).mono ?_;rintro e w9 ⟨rfl,B,g,d⟩;have m:=Hh g;have l:=Hh (q.out.trans d);clear g d;go_wp2;go_end0;exact⟨rfl,B,by rw[b.out];exact m.out,l.out⟩
end
end Go.Proofs.YtogcnfhmcpkdcaaGreat
