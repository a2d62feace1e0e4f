/-
Contract of Compact (without the texts of letters).
-/
import Derived.Test.YtogcnfhmcpkdcaaGreatRaftNA
import Derived.Test.YtogcnfhmcpkdcaaGreatRaftM6
namespace Go.Proofs.YtogcnfhmcpkdcaaGreat
open Go.RowKit
set_option linter.unusedVariables false
set_option linter.unusedSimpArgs false
section
theorem ao.setState9{w:World}{p:Nat}{R:aa}{M:ay}(h:ao w p R M){a:Option Addr}{c:Nat}{s:List UInt8}(n:cS w a c s):ao (w.setCell ⟨p,5,none⟩ (.slice a s.length c)) p { R with state:=s } { M with sa:=a,sc:=c }/\ah p M { M with sa:=a,sc:=c } w (w.setCell ⟨p,5,none⟩ (.slice a s.length c)):=by
 have b:∀k,k≠p->(w.setCell ⟨p,5,none⟩ (.slice a s.length c)).heap[k]? =w.heap[k]? :=fun k d=>Below.heap_setCell _ _ _ k d
 obtain⟨v,t,r,q, -⟩:=h.apart;have hT:ah p M { M with sa:=a,sc:=c } w (w.setCell ⟨p,5,none⟩ (.slice a s.length c)):=⟨rfl,rfl,rfl,by simp,fun k d i=>b k (fun e=>i (.inl e)),fun k d=> .inl d⟩
 have o:=heap_setCell_same w p 5 _ _ (.slice a s.length c) h.row;refine⟨⟨h.sv.cp rfl rfl rfl,?_,h.lnKeep hT (b _ v) fun k d=>b k (fun e=>t (by rw[<-e];exact d)),h.keeps hT n,aE h.nw fun g f=>b g (fun e=>by rw[al]at f;exact r (by rw[<-e];exact f)),fun m l=>h.keeps hT (h.nb m l),h.nq,aE h.ou fun g f=>b g (fun e=>by rw[al]at f;exact q (by rw[<-e];exact f)),h.oq,h.postKeep hT rfl rfl⟩,hT⟩;rw[o,<-bg (R:=R) (R':={ R with state:=s }) (M:=M) (M':={ M with sa:=a,sc:=c }) (j:=5) (x:= .slice a s.length c) (by omega) rfl rfl rfl rfl rfl]
 simp
structure wN (p lb:Nat) (ap:Int) (W:World):Prop where
 c4:W.cell? ⟨p,4,none⟩=some (.pointer (some ⟨lb,0,none⟩))
 c9:W.cell? ⟨p,9,none⟩=some (.int .i64 ap)
theorem ao.cptS{w:World}{p:Nat}{R:aa}{M:ay}(h:ao w p R M):wN p M.lb R.applied w:=⟨h.c rfl,h.c rfl⟩
theorem ru{R:aa}(h:R.Ok):(R.line.drop R.applied).2=true:=by
 have d:=h.ap0;have c:=h.ap1;have b:=h.cm;have a:¬R.line.tm R.applied<0:=by have:=(h.line.tm_ge R.applied).2 ⟨by omega,by omega⟩;omega
 unfold ae.drop;rw[if_neg a]
set_option maxRecDepth 100000 in
set_option maxHeartbeats 2000000 in
theorem qy(p:Nat)(R:aa)(M:ay)(b:List UInt8)(ba:Option Addr)(bc:Nat)(hok:R.Ok)(w:World)(hb:aM w w.heap.size ba b.length bc b)(hf:0<b.length->∀ad,ba=some ad->¬M.own p ad.block)(h:ao w p R M):
  Calls Tryz.prog 15 #[.pointer (some ⟨p,0,none⟩), .slice ba b.length bc] w fun e w'=>e= .returned (.bool (R.compact b).2)/\∃M',ao w' p (R.compact b).1 M'/\ah p M M' w w':=by
 have c4:w.cell? ⟨p,4,none⟩=some (.pointer (some ⟨M.lb,0,none⟩)):=h.c rfl;have HR:=Hh h;have Z:=Hh hok;have a2:=Hh hb;have a0:=Hh hf;have a1:=Hh (ru hok);have hbig:=hb.hbig;have hb0:=hok.line.b0;have v:=Hh (show R.compact b=if R.applied=R.line.base\/65536<b.length then(R,false) else({ R with line:=(R.line.drop R.applied).1,state:=b },true) by
  unfold aa.compact;rw[ru hok]
  simp)
 clear h hok hb hf;go_enter Tryz.func15,Tryz.ntmps15
 go_wp2_with fail;refine(fM 0 M.lb R.line M.la M.lc M.ms _ HR.out.ln).mono ?_;rintro e w1 ⟨rfl,m1,n⟩;have l:=Hh (show Below w.heap.size w w1 by rw[n];exact below_drewN w m1);have t:=Hh (HR.out.drawn n);have N:=l.out.size;clear n c4;by_cases r:R.applied=R.line.base
 ·have t1:(R.applied==R.line.base)=true:=by simpa using r
  have B:=Hh (show R.compact b=(R,false) by rw[v.out,if_pos (.inl r)]);clear r;go_wp2_with fail;refine lT (S:=wN p M.lb R.applied) ?_;intro D d;have g:=Hh (t.out.below d);have a:=g.out.cptS;refine hT 0 15 a ?_;refine hT 4 19 a ?_;refine hT 1 16 a ?_;refine hT 2 17 a ?_;refine hT 3 18 a ?_;refine hT 5 20 a ?_;refine hT 6 21 a ?_;refine hN 7 22 a ?_;refine hN 8 23 a ?_;refine hN 9 24 a ?_;refine hV 10 25 (.bool true) a ?_;refine hT 11 26 a ?_;refine hN 12 27 a ?_;refine hN 16 31 a ?_;refine hN 13 28 a ?_;refine hN 17 32 a ?_;refine hN 14 29 a ?_;refine hN 18 33 a ?_;refine hN 15 30 a ?_;refine hN 19 34 a ?_;refine hN 20 35 a ?_;refine hN 21 36 a ?_;refine hV 22 37 (.bool true) a ?_;refine dc ?_;have s:=Hh (show ah p M M w D from(ah.ofBelow l.out).trans (.ofBelow d));clear a d;go_wp2;go_ret;rw[B.out];exact⟨rfl,M,g.out,s.out⟩
 have t1:(R.applied==R.line.base)=false:=by simpa using r
 by_cases G:65536<b.length
 ·have t2:decide ((65536:Int)<(b.length:Int))=true:=decide_eq_true (by omega);have B:=Hh (show R.compact b=(R,false) by rw[v.out,if_pos (.inr G)]);clear r G;go_wp2_with fail;refine lT (S:=wN p M.lb R.applied) ?_;intro D d;have g:=Hh (t.out.below d);have a:=g.out.cptS;refine hT 0 15 a ?_;refine hT 4 19 a ?_;refine hT 1 16 a ?_;refine hT 2 17 a ?_;refine hT 3 18 a ?_;refine hT 5 20 a ?_;refine hT 6 21 a ?_;refine hT 7 22 a ?_;refine hV 8 23 (.int .i64 (b.length:Int)) a ?_;refine hV 9 24 (.bool true) a ?_;refine hV 10 25 (.bool true) a ?_;refine hT 11 26 a ?_;refine hN 12 27 a ?_;refine hN 16 31 a ?_;refine hN 13 28 a ?_;refine hN 17 32 a ?_;refine hN 14 29 a ?_;refine hN 18 33 a ?_;refine hN 15 30 a ?_;refine hN 19 34 a ?_;refine hN 20 35 a ?_;refine hN 21 36 a ?_;refine hV 22 37 (.bool true) a ?_;refine dc ?_;have s:=Hh (show ah p M M w D from(ah.ofBelow l.out).trans (.ofBelow d));clear a d;go_wp2;go_ret;rw[B.out];exact⟨rfl,M,g.out,s.out⟩
 have t2:decide ((65536:Int)<(b.length:Int))=false:=decide_eq_false (by omega);have B:=Hh (show R.compact b=({ R with line:=(R.line.drop R.applied).1,state:=b },true) by rw[v.out,if_neg (fun F=>F.elim r G)]);clear r G;go_wp2_with fail;refine lT (S:=wN p M.lb R.applied) ?_;intro D d;have g:=Hh (t.out.below d);have a:=g.out.cptS;refine hT 0 15 a ?_;refine hT 4 19 a ?_;refine hT 1 16 a ?_;refine hT 2 17 a ?_;refine hT 3 18 a ?_;refine hT 5 20 a ?_;refine hT 6 21 a ?_;refine hT 7 22 a ?_;refine hV 8 23 (.int .i64 (b.length:Int)) a ?_;refine hV 9 24 (.bool false) a ?_;refine hV 10 25 (.bool false) a ?_;refine hT 11 26 a ?_;refine hT 12 27 a ?_;refine hT 16 31 a ?_;refine hT 13 28 a ?_;refine hT 17 32 a ?_;refine hT 14 29 a ?_;refine hT 18 33 a ?_;refine hT 15 30 a ?_;refine hT 19 34 a ?_;clear a;refine bp 20 ?_;go_simp;refine(qQ 0 M.lb R.line Z.out.line M.la M.lc M.ms R.applied _ g.out.ln (Nat.zero_le _)).mono ?_;rintro e H ⟨rfl,y⟩;rw[a1.out];obtain⟨L,J,I,A,P⟩:=g.out.lined y;obtain⟨x,q⟩:∃x:ay,x={ M with la:=L,lc:=J,ms:=I }:=⟨_,rfl⟩
 rw[<-q]at A P;have Y:=Hh A;have i:=(show ah p M x w H from(ah.ofBelow (l.out.trans (d.mono N))).trans P)
 have C:=Hh (a2.out.touch i a0.out);have W:=Hh i;have k:wN p M.lb R.applied H:=⟨by have F:H.cell? ⟨p,4,none⟩=some (.pointer (some ⟨x.lb,0,none⟩)):=A.c rfl;rw[q]at F;exact F,A.c rfl⟩
 clear i q A P y d;refine⟨k,?_⟩;refine hV 21 36 (.bool false) k ?_;refine hV 22 37 (.bool false) k ?_;refine dc ?_;clear k;go_wp2_with fail;refine(iU b ba bc _ C.out).mono ?_;rintro e w7 ⟨sa,sc,rfl,z,o⟩;have j:=Y.out.below o;obtain⟨T,O⟩:=j.setState9 z;obtain⟨w8,m⟩:∃w8,w8=w7.setCell ⟨p,5,none⟩ (.slice sa b.length sc):=⟨_,rfl⟩
 rw[<-m]at T O;have X:=Hh T;have V:=Hh ((W.out.trans (.ofBelow o)).trans O);have U:=Hh m;have c5:w7.cell? ⟨p,5,none⟩=some (.slice x.sa R.state.length x.sc):=j.c rfl;have f5:=j.f 5;clear z o j T O m;go_wp2;go_ret;rw[B.out,<-U.out];exact⟨rfl,_,X.out,V.out⟩
end
end Go.Proofs.YtogcnfhmcpkdcaaGreat
