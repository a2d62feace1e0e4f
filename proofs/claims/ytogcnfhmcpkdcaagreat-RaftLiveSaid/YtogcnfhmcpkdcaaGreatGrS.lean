/-
Walks of a group: a step.
-/
import Derived.Test.YtogcnfhmcpkdcaaGreatGrE
import Derived.Deep.QuietTactic
import Derived.BigQuiet
namespace Go.Proofs.YtogcnfhmcpkdcaaGreat
open Go.RowKit
set_option linter.unusedVariables false
set_option linter.unusedSimpArgs false
section
variable {w w' w1 : World} {B g n c : Nat} {G : ac} {M : bG} {i : Nat} {gh : Gh}
structure yD (g b0 n cap I p bx:Nat) (v:Value) (W:World):Prop where
 s:g<W.heap.size
 c0:W.cell? ⟨g,0,none⟩=some (.slice (some ⟨b0,0,none⟩) n cap)
 k0:W.cell? ⟨b0,I,none⟩=some (.pointer (some ⟨p,0,none⟩))
 d3:W.cell? ⟨bx,3,none⟩=some v
theorem yD.below{b n cap I p a:Nat}{v:Value}(h:yD g b n cap I p a v w)(hb:Below w.heap.size w w'):yD g b n cap I p a v w':=⟨Nat.lt_of_lt_of_le h.s hb.size,(hb.cell (p:=⟨g,0,none⟩) h.s).trans h.c0,(hb.cell (p:=⟨b,I,none⟩) (cI h.k0)).trans h.k0,(hb.cell (p:=⟨a,3,none⟩) (cI h.d3)).trans h.d3⟩
structure yF (g n I b0 cap0 b1 cap1 b2 cap2:Nat) (v1 v2:Value) (W:World):Prop where
 s:g<W.heap.size
 c0:W.cell? ⟨g,0,none⟩=some (.slice (some ⟨b0,0,none⟩) n cap0)
 c1:W.cell? ⟨g,1,none⟩=some (.slice (some ⟨b1,0,none⟩) n cap1)
 k1:W.cell? ⟨b1,I,none⟩=some v1
 c2:W.cell? ⟨g,2,none⟩=some (.slice (some ⟨b2,0,none⟩) n cap2)
 k2:W.cell? ⟨b2,I,none⟩=some v2
theorem yF.below{n I j c e b d a:Nat}{i f:Value}(h:yF g n I j c e b d a i f w)(hb:Below w.heap.size w w'):yF g n I j c e b d a i f w':=⟨Nat.lt_of_lt_of_le h.s hb.size,(hb.cell (p:=⟨g,0,none⟩) h.s).trans h.c0,(hb.cell (p:=⟨g,1,none⟩) h.s).trans h.c1,(hb.cell (p:=⟨e,I,none⟩) (cI h.k1)).trans h.k1,(hb.cell (p:=⟨g,2,none⟩) h.s).trans h.c2,(hb.cell (p:=⟨d,I,none⟩) (cI h.k2)).trans h.k2⟩
structure yL (g n I b0 cap0 p b3 cap3:Nat) (a:Nat) (W:World):Prop where
 s:g<W.heap.size
 c0:W.cell? ⟨g,0,none⟩=some (.slice (some ⟨b0,0,none⟩) n cap0)
 cp:W.cell? ⟨b0,I,none⟩=some (.pointer (some ⟨p,0,none⟩))
 c3:W.cell? ⟨g,3,none⟩=some (.slice (some ⟨b3,0,none⟩) n cap3)
 k3:W.cell? ⟨b3,I,none⟩=some (.int .i64 a)
theorem yL.below{n I e c p d b a:Nat}(h:yL g n I e c p d b a w)(hb:Below w.heap.size w w'):yL g n I e c p d b a w':=⟨Nat.lt_of_lt_of_le h.s hb.size,(hb.cell (p:=⟨g,0,none⟩) h.s).trans h.c0,(hb.cell (p:=⟨e,I,none⟩) (cI h.cp)).trans h.cp,(hb.cell (p:=⟨g,3,none⟩) h.s).trans h.c3,(hb.cell (p:=⟨d,I,none⟩) (cI h.k3)).trans h.k3⟩
structure yI (g n I b0 cap0 p b1 cap1:Nat) (W:World):Prop where
 s:g<W.heap.size
 c0:W.cell? ⟨g,0,none⟩=some (.slice (some ⟨b0,0,none⟩) n cap0)
 cp:W.cell? ⟨b0,I,none⟩=some (.pointer (some ⟨p,0,none⟩))
 c1:W.cell? ⟨g,1,none⟩=some (.slice (some ⟨b1,0,none⟩) n cap1)
theorem yI.below{n I c b p d a:Nat}(h:yI g n I c b p d a w)(hb:Below w.heap.size w w'):yI g n I c b p d a w':=⟨Nat.lt_of_lt_of_le h.s hb.size,(hb.cell (p:=⟨g,0,none⟩) h.s).trans h.c0,(hb.cell (p:=⟨c,I,none⟩) (cI h.cp)).trans h.cp,(hb.cell (p:=⟨g,1,none⟩) h.s).trans h.c1⟩
set_option maxRecDepth 100000 in
set_option maxHeartbeats 4000000 in
theorem xg{od oa on:Int}{sa:Option Addr}{sc kk:Nat}{b:List UInt8}(h:xP w B g n c kk)(h5:n<=5)(hc:c+7<=2000)(hb:aM w w.heap.size sa b.length sc b)(hbl:b.length<=50):
  Calls Tryz.prog 24 #[.pointer (some ⟨g,0,none⟩), .agg #[.int .i64 od, .int .i64 oa, .int .i64 on, .slice sa b.length sc]] w fun e w'=>e= .returned (.tuple #[])/\xP w' B g n (c+7) (kk+5)/\Below B w w':=by
 obtain⟨gh,G,M,ci,h⟩:=h;have hn1:=h.si.n1;have hn7:=h.si.n7;have hpl:=h.pl;have hml:=h.ml;have hbag:=h.si.bagl;obtain⟨L,hL⟩:∃L,L=G.bag.length:=⟨_,rfl⟩
 obtain⟨W1,hW1⟩:∃W1,W1=w.alloc (.cells #[.int .i64 od, .int .i64 oa, .int .i64 on, .slice sa b.length sc] 60):=⟨_,rfl⟩
 have J:Below w.heap.size w W1:=by rw[hW1];exact(Below.refl _ _).alloc (Nat.le_refl _) _
 obtain⟨bx,hbx⟩:∃bx,bx=w.heap.size:=⟨_,rfl⟩
 have hrow1:W1.heap[bx]? =some (.cells #[.int .i64 od, .int .i64 oa, .int .i64 on, .slice sa b.length sc] 60 (0,0)):=by rw[hW1,hbx];exact heap_alloc_new w _
 have H1:=Hh (h.below J);have hc0:∀V,fe V B g n c kk gh G M ci->V.cell? ⟨g,0,none⟩=some (.slice (M.ra 0) n (M.rc 0)):=fun V hV=>by rw[<-hpl];exact hV.gr.cl (i:=0) (by omega)
 have hc4:∀V,fe V B g n c kk gh G M ci->V.cell? ⟨g,4,none⟩=some (.slice (M.ra 4) L (M.rc 4)):=fun V hV=>by rw[hL,<-hml];exact hV.gr.cl (i:=4) (by omega)
 have HC0:=Hh hc0;have HC4:=Hh hc4;have c0:=hc0 _ H1.out;have d1:W1.cell? ⟨bx,1,none⟩=some (.int .i64 oa):=by rw[cell_of_row _ _ 1 _ _ _ hrow1];rfl
 have HW1:=Hh hW1;have HBX:=Hh hbx;have HROW1:=Hh hrow1;have HBW1:=Hh J;have HB:=Hh hb;have HBS:=Hh h.gr.bs;have HLQ:=Hh hL;clear h hW1 hrow1 J hb hL hc0 hc4 hml hpl hbag hbx;go_enter Tryz.func24,Tryz.ntmps24
 go_wp2_with fail;rw[<-HBX.out,<-HW1.out];obtain⟨I,hI⟩:∃I,I=pk oa n:=⟨_,rfl⟩
 go_quiet (first | (go_at_call 58;refine Calls.quiet_of_same (lY oa n (by omega) _)))
 rw[<-hI];obtain⟨W2,hW2⟩:∃W2,W2=W1.drewN nq:=⟨_,rfl⟩
 rw[<-hW2];have hb2:Below W1.heap.size W1 W2:=by rw[hW2];exact below_drewN W1 nq
 have H2:=Hh (H1.out.below hb2);have c4:=HC4.out _ H2.out;have hrow2:W2.heap[bx]? =some (.cells #[.int .i64 od, .int .i64 oa, .int .i64 on, .slice sa b.length sc] 60 (0,0)):=(hb2.block _ (Array.getElem?_eq_some_iff.1 HROW1.out).1).trans HROW1.out;have d2:W2.cell? ⟨bx,2,none⟩=some (.int .i64 on):=by rw[cell_of_row _ _ 2 _ _ _ hrow2];rfl
 have HROW2:=Hh hrow2;have HBW2:=Hh (HBW1.out.trans (hb2.mono HBW1.out.size));obtain⟨K,hK⟩:∃K,K=pk on L:=⟨_,rfl⟩
 have hL2:L<=2000:=by rw[HLQ.out];exact H1.out.si.bagl
 have HI:=Hh hI;clear hb2 hW2 hrow2 hI c0 d1;go_wp2_with fail;go_quiet (first | (go_at_call 58;refine Calls.quiet_of_same (lY on L (by omega) _)))
 rw[<-hK];obtain⟨W3,hW3⟩:∃W3,W3=W2.drewN nq:=⟨_,rfl⟩
 rw[<-hW3];have hb3:Below W2.heap.size W2 W3:=by rw[hW3];exact below_drewN W2 nq
 have A:=Hh (H2.out.below hb3);have hrow3:W3.heap[bx]? =some (.cells #[.int .i64 od, .int .i64 oa, .int .i64 on, .slice sa b.length sc] 60 (0,0)):=(hb3.block _ (Array.getElem?_eq_some_iff.1 HROW2.out).1).trans HROW2.out;have d0:W3.cell? ⟨bx,0,none⟩=some (.int .i64 od):=by rw[cell_of_row _ _ 0 _ _ _ hrow3];rfl
 have HROW3:=Hh hrow3;have HBW3:=Hh (HBW2.out.trans (hb3.mono HBW2.out.size));have D:I<n:=by rw[HI.out];exact vi (by omega)
 have HKL:=Hh (show 0<L->K<L from fun F=>by rw[hK];exact vi F);have hK2:K<=2000:=by
  by_cases F:0<L
  ·have:=HKL.out F;omega
  ·have h8:L=0:=by omega
   rw[hK,h8];unfold pk;simp
 obtain⟨wo,hwo⟩:∃wo:World,wo=w:=⟨_,rfl⟩
 have HWO:=Hh hwo;rw[<-hwo]at HBW3 HBS;clear hb3 hW3 hrow3 hK c4 d2 hwo;go_upto_region 4 with fail
 have hKL:=HKL.out;have c0:=HC0.out _ A.out;have c4:=HC4.out _ A.out;have HBB:=Hh (HBW3.out.mono HBS.out);clear d0 hKL;by_cases e0:od=0
 ·subst e0;clear c0 c4;go_wp2_with fail;go_loopw [6] (fun iv wr=>∃j:Nat,iv= .int .i64 j/\j<=n/\xP wr B g n (c+j) (kk+j)/\Below B w wr) (fun iv _=>n-(intOf iv).toNat)
  case atStart=>exact⟨0,rfl,by omega,⟨_,_,_,_,A.out⟩,by rw[<-HWO.out];exact HBB.out⟩
  case round=>
   obtain⟨j,rfl,hjn,⟨g2,G2,M2,c2,h2⟩,hbj⟩:=hrel;have H4:=Hh h2;have HBJ:=Hh hbj;have c0:wr.cell? ⟨g,0,none⟩=some (.slice (M2.ra 0) n (M2.rc 0)):=by rw[<-h2.pl];exact h2.gr.cl (i:=0) (by omega)
   clear h2 hbj;by_cases hjl:j<n
   ·have t1:decide ((j:Int)<(n:Int))=true:=decide_eq_true (by omega);have t1n:decide (j<n)=true:=decide_eq_true hjl;obtain⟨R,p,N,hR,hq,T,ho,hnw,hj,hca,hat,r⟩:=H4.out.get hjl;have hok:=T.ok;obtain⟨b0,J,hb2, -⟩:=r.ptr hq;rw[J]at c0;have O:=Hh r;have HR:=Hh hR;have HQ:=Hh hq;have z:=Hh hok;have HNO:=Hh (And.intro hnw ho);have hI0:(0:Int)<=(j:Int):=by omega
    have hI1:(j:Int)<(n:Int):=by omega
    clear hR hq T ho hnw hj hca hat r hok J;go_wp2_with fail;refine(jY p R N z.out.n1 z.out.n7 z.out.me0 z.out.men z.out.bt0 z.out.bt1 z.out.line z.out.xs z.out.tk0 (by have:=z.out.tk1;omega) (by rw[HNO.out.1];simp) (by rw[HNO.out.2];simp) _ (O.out.rf j R (p,N) HR.out HQ.out)).mono ?_;rintro e w5 ⟨rfl,N1,hr5,ht5⟩;have hg5:=O.out.putRaft HR.out HQ.out hr5 ht5;have HG5:=Hh hg5;have HB5:=Hh (HBJ.out.trans (ht5.below (fun k hk=>O.out.inn (.raft j) k ⟨_,HQ.out,hk⟩) O.out.bs));have hq5:({ M2 with ps:=M2.ps.set j (p,N1) }:bG).ps[j]? =some (p,N1):=by show(M2.ps.set j _)[j]? =_;rw[aZ (List.getElem?_eq_some_iff.1 HQ.out).1,if_pos rfl]
    obtain⟨W,g',P⟩:=H4.out.si.tick (by omega) HR.out;have HSI:=Hh P;have HCW:=Hh W;clear hg5 hr5 ht5 W P c0 hb2;go_wp2_with fail;refine(eP HG5.out hq5 HCW.out).mono ?_;rintro e w6 ⟨rfl,M6,N6,C,hp6,hn6,H⟩;have HF:=Hh (show fe w6 B g n (c+(j+1)) (kk+(j+1)) g' _ M6 j from⟨HSI.out.up (by omega) (by omega),C,fun q o=>by rw[hp6]at o;injection o with o;subst o;exact hn6⟩);have Z:=Hh (HB5.out.trans H);clear C H;go_wp2_with fail;go_roundw
    case rel=>exact⟨j+1,by go_num,by omega,⟨_,_,_,_,HF.out⟩,Z.out⟩
    case measure=>simp[intOf];omega
   ·have t1:decide ((j:Int)<(n:Int))=false:=decide_eq_false (by omega);have t1n:decide (j<n)=false:=decide_eq_false hjl;have HF:=Hh (show xP wr B g n (c+7) (kk+5) from⟨_,_,_,_,⟨H4.out.si.up (by omega) (by omega),H4.out.gr,H4.out.em⟩⟩);go_wp2_with fail
    ((try simp only[Exit.inBlock,Exit.then]);refine bodyPost_ret (results_none rfl _ _ _) rfl ?_)
    exact⟨rfl,HF.out,HBJ.out⟩
 by_cases e1:od=1
 ·subst e1;clear c0 e0;by_cases hl:0<L
  ·have t1:decide (0<(L:Int))=true:=decide_eq_true (by omega);have t1n:decide (0<L)=true:=decide_eq_true hl;have hkl:=HKL.out hl;obtain⟨y,hy⟩:∃y,G.bag[K]? =some y:=⟨_,List.getElem?_eq_getElem (by rw[<-HLQ.out];exact hkl)⟩
   obtain⟨f,x,hf,hx,hlt⟩:=A.out.si.bag y (List.mem_of_getElem? hy);obtain⟨j,hj⟩:∃j:Nat,y.2.1=j:=⟨y.2.1.toNat,by have:=hlt.w0;omega⟩
   have hjn:j<n:=by have:=hlt.w1;omega
   have hye:y=((f:Int),(j:Int),cG x):=by obtain⟨y1,y2,y3⟩:=y;have hf:y1=_:=hf;have hj:y2=_:=hj;have hx:y3=_:=hx;rw[hf,hj,hx]
   rw[hye]at hy;rw[hj]at hlt;obtain⟨R,p,N,hR,hq,T,ho,hnw,hju,hca,hat,r⟩:=A.out.get hjn;obtain⟨W,g',P⟩:=(A.out.si.without K).handle (by omega) hR hlt;have HSI:=Hh P;have HD:=Hh (nu A.out.gr A.out.em hy hlt.right A.out.si.bagl A.out.si.right hR hq T.ok (by rw[hnw];simp) (by rw[ho];simp) W);clear hkl hy hf hx hlt hj hjn hye hR hq T ho hnw hju hca hat r W P;go_wp2_with fail;refine HD.out.mono ?_;rintro e w6 ⟨rfl,M6,N6,C,hp6,hn6,H⟩;have HF:=Hh (show fe w6 B g n (c+7) (kk+5) g' _ M6 j from⟨HSI.out.up (by omega) (by omega),C,fun q o=>by rw[hp6]at o;injection o with o;subst o;exact hn6⟩);have Z:=Hh (HBB.out.trans H);clear C H;go_wp2_with fail
   ((try simp only[Exit.inBlock,Exit.then]);refine bodyPost_ret (results_none rfl _ _ _) rfl ?_)
   exact⟨rfl,⟨_,_,_,_,HF.out⟩,by rw[<-HWO.out];exact Z.out⟩
  ·have t1:decide (0<(L:Int))=false:=decide_eq_false (by omega);have t1n:decide (0<L)=false:=decide_eq_false hl;have HF:=Hh (show fe W3 B g n (c+7) (kk+5) gh G M ci from⟨A.out.si.up (by omega) (by omega),A.out.gr,A.out.em⟩);clear hl;go_wp2_with fail
   ((try simp only[Exit.inBlock,Exit.then]);refine bodyPost_ret (results_none rfl _ _ _) rfl ?_)
   exact⟨rfl,⟨_,_,_,_,HF.out⟩,by rw[<-HWO.out];exact HBB.out⟩
 by_cases e2:od=2
 ·subst e2;clear c0 e0 e1;by_cases hl:0<L
  ·have t1:decide (0<(L:Int))=true:=decide_eq_true (by omega);have t1n:decide (0<L)=true:=decide_eq_true hl;obtain⟨iM,jM,jM0,jM1,jM2⟩:=info_parts kr;have HLM:=Hh (show L=M.ms.length by rw[A.out.ml];exact HLQ.out);have HV:=Hh A.out.gr;have HBV:=Hh (Below.refl W3.heap.size W3);have hkL:K<L:=HKL.out hl;obtain⟨b,J⟩:∃b,M.ra 4=some ⟨b,0,none⟩:=by
    obtain⟨b,v,e⟩:=lX A.out.gr (i:=4) (by omega) (by show 0<M.ms.length;rw[<-HLM.out];exact hl);injection e with e;exact⟨b,e⟩
   rw[J]at c4;have hsl:SlAt W3 W3.heap.size 3 (some ⟨b,0,none⟩) L (M.rc 4) (M.ms.flatMap bE.cells):=by obtain⟨a9,c9,e9,F⟩:=SlAt.ofOwns (A.out.gr.rows 4 (by omega));have e9:Value.slice (M.ra 4) M.ms.length (M.rc 4)=_:=e9;injection e9 with e1 _ e3;subst e1 e3;rw[<-J,HLM.out];exact F
   have hcap:L<=M.rc 4:=hsl.hle;obtain⟨v,hcp⟩:∃v,v=M.rc 4:=⟨_,rfl⟩
   rw[<-hcp]at c4 hsl hcap;have HSL:=Hh hsl;have HSV:=Hh (show tP g b L v W3 from⟨HV.out.lt (x:= .g) rfl,c4⟩);clear hcp;obtain⟨k1,hk1'⟩:∃k1:Nat,k1=K+1:=⟨_,rfl⟩
   have wk:IntKind.i64.wrap ((K:Int)+1)=(k1:Int):=by rw[IntWalk.i64_in _ (by omega)];omega
   have hrun1:∀W3':World,(Instr.slice 64 (.slice (some ⟨b,0,none⟩) L v) none (some (.int .i64 K)) none).run Tryz.prog W3'= .ok (.slice (some ⟨b,0,none⟩) K v) W3':=fun W3'=>mK Tryz.underlying64 iK (some ⟨b,0,none⟩) L v .i64 K (by omega) W3'
   obtain⟨sa,hsa⟩:∃sa,sa=(if v=k1 then some ⟨b,0,none⟩ else(some (⟨b,0,none⟩:Addr)).map (·.add (k1*3))):=⟨_,rfl⟩
   have hrun2:∀W3':World,(Instr.slice 64 (.slice (some ⟨b,0,none⟩) L v) (some (.int .i64 k1)) none none).run Tryz.prog W3'= .ok (.slice sa (L-k1) (v-k1)) W3':=fun W3'=>by rw[hsa];exact mL Tryz.underlying64 iK (some ⟨b,0,none⟩) L v .i64 k1 (by omega) W3'
   have HS1:=Hh (show SlAt W3 W3.heap.size 3 (some ⟨b,0,none⟩) K v ((M.ms.take K).flatMap bE.cells) by rw[<-jy];exact HSL.out.upto (by omega) (by omega) (Nat.le_refl _))
   have HS2:=Hh (show SlAt W3 W3.heap.size 3 sa (L-k1) (v-k1) ((M.ms.drop k1).flatMap bE.cells) by rw[<-jz,hsa];exact HSL.out.from_ (by omega))
   have HK1:=Hh hk1';clear hsa hk1' hcap J hsl;go_wp2_with fail;clear c4;refine sQ (S:=tP g b L v) 19 ?_;intro Y l;have d:tP g b L v Y:=HSV.out.below l;refine cK 0 70 d ?_;refine cK 2 72 d ?_;refine cK 6 76 d ?_;refine cK 9 79 d ?_;refine cK 13 83 d ?_;refine cK 3 73 d ?_;refine cK 10 80 d ?_;refine xo 14 84 (.int .i64 k1) d ?_;refine cK 4 74 d ?_;refine cK 11 81 d ?_;refine cK 5 75 d ?_;refine cK 12 82 d ?_;refine xo 7 77 (.slice (some ⟨b,0,none⟩) K v) d ?_;refine xo 15 85 (.slice sa (L-k1) (v-k1)) d ?_;clear hrun1 hrun2 wk;refine nV 1 ?_;go_simp;obtain⟨U,hU⟩:∃U,U=Y.alloc (.cells #[] 99):=⟨_,rfl⟩
   rw[<-hU];have hbU:Below Y.heap.size Y U:=by rw[hU];exact(Below.refl _ _).alloc (Nat.le_refl _) _
   have hsU:U.heap.size=Y.heap.size+1:=by rw[hU];simp
   have hmade:U.ownsRow Y.heap.size 99 3 (.slice (some ⟨Y.heap.size,0,none⟩) 0 0) 0 []:=by rw[hU];exact ek Y Y.heap.size 3 (Nat.le_refl _) 99
   have hwY:W3.heap.size<=Y.heap.size:=Nat.le_trans HBV.out.size l.size;have hbY:Below W3.heap.size W3 Y:=HBV.out.trans (l.mono HBV.out.size);have hbwU:Below W3.heap.size W3 U:=hbY.trans (hbU.mono hwY);refine⟨d.below hbU,?_⟩;have HBY1:=Hh hbY;have HS9:=Hh d;clear d hU;refine nV 8 ?_;refine aS U (.tmp 71) (.tmp 77) 64 rfl Y.heap.size 99 iM (.agg #[.int .i64 0, .int .i64 0, .slice none 0 0]) 3 40 Tryz.underlying64 jM jM0 jM1 jM2 rfl (by decide) (.slice (some ⟨Y.heap.size,0,none⟩) 0 0) 0 [] rfl hmade U.heap.size (some ⟨b,0,none⟩) K v ((M.ms.take K).flatMap bE.cells) rfl ((HS1.out.below hbwU (Nat.le_refl _)).mono hbwU.size) kh (by unfold maxLen;omega) (by omega) (by omega) ?_;intro a8 c8 W8 o8 g8 hat8;simp only[Nat.zero_add,List.nil_append]at o8;have hb8:Below Y.heap.size Y W8:=by refine hbU.trans ⟨g8.os,g8.tape,g8.output,g8.size,fun K hk=>g8.block K (by omega) (fun e=> ?_)⟩;have e:some Y.heap.size=some K:=e.symm;injection e with e;omega
   have hb8w:=hbY.trans (hb8.mono hwY);have hS8:=HS9.out.below hb8;refine⟨hS8,?_⟩;simp only[Nat.zero_add];refine nV 16 ?_;have hmk:(M.ms.drop k1).length=L-k1:=by rw[List.length_drop,HLM.out]
   refine aS W8 (.tmp 78) (.tmp 85) 64 rfl Y.heap.size 99 iM (.agg #[.int .i64 0, .int .i64 0, .slice none 0 0]) 3 40 Tryz.underlying64 jM jM0 jM1 jM2 rfl (by decide) (.slice a8 K c8) K ((M.ms.take K).flatMap bE.cells) rfl o8 W8.heap.size sa (L-k1) (v-k1) ((M.ms.drop k1).flatMap bE.cells) rfl ((HS2.out.below hb8w (Nat.le_refl _)).mono hb8w.size) kh (by unfold maxLen;omega) (by omega) (by have:=g8.size;omega) ?_;intro a16 c16 W16 o16 g16 hat16;have hb16:Below Y.heap.size Y W16:=by refine hb8.trans ⟨g16.os,g16.tape,g16.output,g16.size,fun K hk=>g16.block K (by have:=hb8.size;omega) (fun e=> ?_)⟩;have:=(own_lt o8 e.symm).1;omega
   have hb16V:Below W3.heap.size W3 W16:=l.trans (hb16.mono l.size);have hS16:=HS9.out.below hb16;have hn16:(M.ms.take K++M.ms.drop k1).length=K+(L-k1):=by rw[List.length_append,hmk,List.length_take,<-HLM.out];omega
   have hset:=HV.out.setBag hb16V (ms':=M.ms.take K++M.ms.drop k1) (fun m hm=>by
    rcases List.mem_append.1 hm with F | F
    ·exact List.mem_of_mem_take F
    ·exact List.mem_of_mem_drop F) hn16 (by rw[List.flatMap_append];exact World.ownsRow.mono o16 l.size)
   have hbg:(M.ms.take K++M.ms.drop k1).map bE.p=G.bag.take K++G.bag.drop (K+1):=by rw[List.map_append,List.map_take,List.map_drop,HV.out.ct.bq,HK1.out]
   rw[hbg]at hset;refine⟨hS16,?_⟩;go_simp;refine cK 17 87 hS16 ?_;refine cK 18 88 hS16 ?_;refine yq ?_;refine aj 64 (.tmp 88) (.tmp 86) rfl g 4 (.slice a16 (K+(L-k1)) c16) _ rfl rfl rfl gL hS16.c4 ((HV.out.below hb16V).f 4) ?_;obtain⟨W17,hW17⟩:∃W17,W17=W16.setCell ⟨g,4,none⟩ (.slice a16 (K+(L-k1)) c16):=⟨_,rfl⟩
   rw[<-hW17]at hset ⊢;have HF:=Hh (show fe W17 B g n (c+7) (kk+5) gh _ _ ci from⟨(A.out.si.without K).up (by omega) (by omega),hset,fun q hq=>A.out.em q hq⟩);have Z:=Hh (show Below B w W17 from(show Below B w W3 by rw[<-HWO.out];exact HBB.out).trans ((hb16V.mono HV.out.bs).trans (by rw[hW17];exact bQ (HV.out.inn .g g rfl) _)));clear hset hW17 hS16 hn16 hbg hb16 hb16V hmk o16 g16 hat16 o8 g8 hat8 hb8 hb8w hS8 hmade hbU hbwU hbY hwY hsU l;go_wp2_with fail
   ((try simp only[Exit.inBlock,Exit.then]);refine bodyPost_ret (results_none rfl _ _ _) rfl ?_)
   exact⟨rfl,⟨_,_,_,_,HF.out⟩,Z.out⟩
  ·have t1:decide (0<(L:Int))=false:=decide_eq_false (by omega);have t1n:decide (0<L)=false:=decide_eq_false hl;have HF:=Hh (show fe W3 B g n (c+7) (kk+5) gh G M ci from⟨A.out.si.up (by omega) (by omega),A.out.gr,A.out.em⟩);clear hl;go_wp2_with fail
   ((try simp only[Exit.inBlock,Exit.then]);refine bodyPost_ret (results_none rfl _ _ _) rfl ?_)
   exact⟨rfl,⟨_,_,_,_,HF.out⟩,by rw[<-HWO.out];exact HBB.out⟩
 by_cases e3:od=3
 ·subst e3;clear c0 e0 e1 e2;by_cases hl:0<L/\L<2000
  ·obtain⟨hl,hl2⟩:=hl;have t1:decide (0<(L:Int))=true:=decide_eq_true (by omega);have t1n:decide (0<L)=true:=decide_eq_true hl;have t2:decide ((L:Int)<2000)=true:=decide_eq_true (by omega);have t2n:decide (L<2000)=true:=decide_eq_true hl2;obtain⟨iM,jM,jM0,jM1,jM2⟩:=info_parts kr;have HLM:=Hh (show L=M.ms.length by rw[A.out.ml];exact HLQ.out);have HV:=Hh A.out.gr;have hkL:K<L:=HKL.out hl;obtain⟨m,hm⟩:∃m,M.ms[K]? =some m:=⟨_,List.getElem?_eq_getElem (by rw[<-HLM.out];exact hkL)⟩
   obtain⟨b,J⟩:∃b,M.ra 4=some ⟨b,0,none⟩:=by obtain⟨b,v,e⟩:=lX A.out.gr (i:=4) (by omega) (by show 0<M.ms.length;rw[<-HLM.out];exact hl);injection e with e;exact⟨b,e⟩
   rw[J]at c4;have hrow:=A.out.gr.rows 4 (by omega);have hrow:W3.ownsRow 0 99 3 (.slice (M.ra 4) M.ms.length (M.rc 4)) M.ms.length (M.ms.flatMap bE.cells):=hrow;obtain⟨v,hcp⟩:∃v,v=M.rc 4:=⟨_,rfl⟩
   rw[J,<-HLM.out,<-hcp]at hrow;rw[<-hcp]at c4;have hln:(M.ms.flatMap bE.cells).length=L*3:=hrow.1;obtain⟨z0,z1,z2⟩:=kO _ _ _ hm;have HROWM:=Hh hrow;have hcs:∀V,Below W3.heap.size W3 V->∀j,j<L*3->V.cell? ⟨b,j,none⟩=(M.ms.flatMap bE.cells)[j]? :=fun V hV j hj=>by obtain⟨a9,c9,e9,F⟩:=SlAt.ofOwns (da HROWM.out hV);injection e9 with e1 _ e3;subst e1 e3;obtain⟨b9,o9,e9, -,F⟩:=F.hat (by rw[hln];omega);injection e9 with e9;injection e9 with e9 e10;subst e9 e10;have:=F j (by rw[hln];exact hj);simpa using this
   have HCS:=Hh hcs;have HZ:=Hh (And.intro z0 (And.intro z1 z2));have HSV:=Hh (show tP g b L v W3 from⟨HV.out.lt (x:= .g) rfl,c4⟩);have HM:=Hh hm;have hk0:(0:Int)<=(K:Int):=by omega
   have hk1:(K:Int)<(L:Int):=by omega
   have HCP:=Hh hcp;have HB1:=Hh J;clear hrow hln z0 z1 z2 hcs hm hcp J;go_wp2_with fail;clear c4 t1 t1n t2 t2n;refine sQ (S:=tP g b L v) 16 ?_;intro Y l;have d:tP g b L v Y:=HSV.out.below l;have HG4:=Hh (HV.out.below l);refine cK 0 105 d ?_;refine cK 1 106 d ?_;refine cK 5 110 d ?_;refine cK 9 114 d ?_;refine cK 2 107 d ?_;refine cK 6 111 d ?_;refine cK 3 108 d ?_;refine cK 7 112 d ?_;refine cK 4 109 d ?_;refine cK 8 113 d ?_;refine cK 10 115 d ?_;have q0:Y.cell? ⟨b,K*3,none⟩=some (.int .i64 m.f):=(HCS.out Y l _ (by omega)).trans HZ.out.1;have q1:Y.cell? ⟨b,K*3+1,none⟩=some (.int .i64 m.t):=(HCS.out Y l _ (by omega)).trans HZ.out.2.1;have q2:Y.cell? ⟨b,K*3+2,none⟩=some (.slice m.a m.b.length m.c):=(HCS.out Y l _ (by omega)).trans HZ.out.2.2;have HS9:=Hh d;clear d;refine nV 11 ?_;go_simp;clear q0 q1 q2;refine⟨HS9.out,?_⟩;refine nV 12 ?_;go_simp;obtain⟨U,hU⟩:∃U,U=Y.alloc (.cells #[.int .i64 m.f, .int .i64 m.t, .slice m.a m.b.length m.c] 99):=⟨_,rfl⟩
   rw[<-hU];have hbU:Below Y.heap.size Y U:=by rw[hU];exact(Below.refl _ _).alloc (Nat.le_refl _) _
   have hsU:U.heap.size=Y.heap.size+1:=by rw[hU];simp
   have HIU:=Hh (show SlAt U U.heap.size 3 (some ⟨Y.heap.size,0,none⟩) 1 1 [.int .i64 m.f, .int .i64 m.t, .slice m.a m.b.length m.c] by rw[hsU,hU];exact cw Y #[.int .i64 m.f, .int .i64 m.t, .slice m.a m.b.length m.c] 99 3 rfl)
   have HLU:=Hh (HG4.out.below hbU);have hbwU:Below W3.heap.size W3 U:=l.trans (hbU.mono l.size);have HSU:=Hh (HS9.out.below hbU);have hrow4:U.ownsRow 0 99 3 (.slice (some ⟨b,0,none⟩) L v) L (M.ms.flatMap bE.cells):=da HROWM.out hbwU;clear hU;refine⟨HSU.out,?_⟩;refine nV 13 ?_;refine aS U (.tmp 109) (.tmp 117) 64 rfl 0 99 iM (.agg #[.int .i64 0, .int .i64 0, .slice none 0 0]) 3 40 Tryz.underlying64 jM jM0 jM1 jM2 rfl (by decide) (.slice (some ⟨b,0,none⟩) L v) L (M.ms.flatMap bE.cells) rfl hrow4 U.heap.size (some ⟨Y.heap.size,0,none⟩) 1 1 [.int .i64 m.f, .int .i64 m.t, .slice m.a m.b.length m.c] rfl HIU.out (by intro u hu;simp at hu;rcases hu with rfl | rfl | rfl<;>rfl) (by unfold maxLen;omega) (by omega) (Nat.zero_le _) ?_;intro a7 c7 W7 o7 g7 hat7;have hrv:aY G M 4= .slice (some ⟨b,0,none⟩) L v:=by show Value.slice (M.ra 4) M.ms.length (M.rc 4)=_;rw[HB1.out,<-HLM.out,HCP.out]
   rw[<-hrv]at g7 hat7;obtain⟨p2,f2⟩:=HLU.out.cell1 (i:=4) (by omega) g7;have hadd:=HLU.out.addMail m (HLU.out.ct.bb _ (List.mem_of_getElem? HM.out)) (by rw[<-HLM.out];exact o7) g7 (by rw[<-HLM.out];exact hat7);have hbl:=HLU.out.grewBelow (i:=4) (by omega) g7 4 (.slice a7 (L+1) c7);rw[hrv]at p2;have hS7:tP g b L v W7:=⟨Nat.lt_of_lt_of_le HSU.out.s g7.size,p2⟩
   refine⟨hS7,?_⟩;go_simp;refine cK 14 119 hS7 ?_;refine cK 15 120 hS7 ?_;refine yq ?_;refine aj 64 (.tmp 120) (.tmp 118) rfl g 4 (.slice a7 (L+1) c7) _ rfl rfl rfl gL p2 f2 ?_;rw[<-HLM.out]at hadd;obtain⟨W8,hW8⟩:∃W8,W8=W7.setCell ⟨g,4,none⟩ (.slice a7 (L+1) c7):=⟨_,rfl⟩
   rw[<-hW8]at hadd hbl ⊢;have hmem:m.p∈G.bag:=by rw[<-A.out.gr.ct.bq];exact List.mem_map_of_mem (List.mem_of_getElem? HM.out)
   have HF:=Hh (show fe W8 B g n (c+7) (kk+5) gh _ _ ci from⟨(A.out.si.twice hmem (by rw[<-HLQ.out];exact hl2)).up (by omega) (by omega),hadd,fun q hq=>A.out.em q hq⟩);have Z:=Hh (show Below B w W8 from(show Below B w W3 by rw[<-HWO.out];exact HBB.out).trans ((hbwU.mono HV.out.bs).trans hbl));clear hadd hbl hW8 hS7 p2 f2 o7 g7 hat7 hrow4 hbwU hbU hsU l hmem hrv;go_wp2_with fail
   ((try simp only[Exit.inBlock,Exit.then]);refine bodyPost_ret (results_none rfl _ _ _) rfl ?_)
   exact⟨rfl,⟨_,_,_,_,HF.out⟩,Z.out⟩
  ·have HF:=Hh (show fe W3 B g n (c+7) (kk+5) gh G M ci from⟨A.out.si.up (by omega) (by omega),A.out.gr,A.out.em⟩);by_cases h0:0<L
   ·have t1:decide (0<(L:Int))=true:=decide_eq_true (by omega);have t1n:decide (0<L)=true:=decide_eq_true h0;have t2:decide ((L:Int)<2000)=false:=decide_eq_false (by omega);have t2n:decide (L<2000)=false:=decide_eq_false (by omega);clear hl h0;go_wp2_with fail
    ((try simp only[Exit.inBlock,Exit.then]);refine bodyPost_ret (results_none rfl _ _ _) rfl ?_)
    exact⟨rfl,⟨_,_,_,_,HF.out⟩,by rw[<-HWO.out];exact HBB.out⟩
   ·have t1:decide (0<(L:Int))=false:=decide_eq_false (by omega);have t1n:decide (0<L)=false:=decide_eq_false h0;clear hl h0;go_wp2_with fail
    ((try simp only[Exit.inBlock,Exit.then]);refine bodyPost_ret (results_none rfl _ _ _) rfl ?_)
    exact⟨rfl,⟨_,_,_,_,HF.out⟩,by rw[<-HWO.out];exact HBB.out⟩
 by_cases e4:od=4
 ·subst e4;clear c4 e0 e1 e2 e3;obtain⟨R,p,N,hR,hq,T,ho,hnw,hj,hca,hat,r⟩:=A.out.get D;have hok:=T.ok;obtain⟨b0,J,hb2, -⟩:=r.ptr hq;rw[J]at c0;have O:=Hh r;have HR:=Hh hR;have HQ:=Hh hq;have z:=Hh hok;have HNO:=Hh (And.intro hnw ho);have hI0:(0:Int)<=(I:Int):=by omega
  have hI1:(I:Int)<(n:Int):=by omega
  have HSV:=Hh (show yD g b0 n (M.rc 0) I p bx (.slice sa b.length sc) W3 from⟨r.lt (x:= .g) rfl,c0,hb2,by rw[cell_of_row _ _ 3 _ _ _ HROW3.out];rfl⟩);have HBY:=Hh (show aM W3 W3.heap.size sa b.length sc b from by have F:=HBW3.out;rw[HWO.out]at F;exact(HB.out.below F (Nat.le_refl _)).mono F.size)
  obtain⟨W,g',P⟩:=A.out.si.propose (by omega) hR hbl;have HSI:=Hh P;have HCW:=Hh W;clear hR hq T ho hnw hj hca hat r hok J hb2 W P;go_wp2_with fail;refine sQ (S:=yD g b0 n (M.rc 0) I p bx (.slice sa b.length sc)) 9 ?_;intro Y l;have HGY:=Hh (O.out.below l);have d:yD g b0 n (M.rc 0) I p bx (.slice sa b.length sc) Y:=HSV.out.below l;refine cK 0 123 d ?_;refine cK 4 127 d ?_;refine cK 7 130 d ?_;refine cK 1 124 d ?_;refine cK 8 131 d ?_;refine cK 2 125 d ?_;refine cK 3 126 d ?_;refine cK 5 128 d ?_;refine cK 6 129 d ?_;refine yq ?_;go_simp;refine(i5 p R N sa sc b z.out.n1 z.out.n7 z.out.me0 z.out.men z.out.line z.out.xs (by rw[HNO.out.1];simp) (by rw[HNO.out.2];simp) _ ((HBY.out.below l (Nat.le_refl _)).mono l.size) (HGY.out.rf I R (p,N) HR.out HQ.out)).mono ?_;rintro e w5 ⟨rfl,N1,hr5,ht5⟩;have hg5:=HGY.out.putRaft HR.out HQ.out hr5 ht5;have HG5:=Hh hg5;have HB5:=Hh (HBB.out.trans ((l.mono O.out.bs).trans (ht5.below (fun k hk=>O.out.inn (.raft I) k ⟨_,HQ.out,hk⟩) HGY.out.bs)));have hq5:({ M with ps:=M.ps.set I (p,N1) }:bG).ps[I]? =some (p,N1):=by show(M.ps.set I _)[I]? =_;rw[aZ (List.getElem?_eq_some_iff.1 HQ.out).1,if_pos rfl]
  clear hg5 hr5 ht5 c0 d l;go_wp2_with fail;refine(eP HG5.out hq5 HCW.out).mono ?_;rintro e w6 ⟨rfl,M6,N6,C,hp6,hn6,H⟩;have HF:=Hh (show fe w6 B g n (c+7) (kk+5) g' _ M6 I from⟨HSI.out.up (by omega) (by omega),C,fun q o=>by rw[hp6]at o;injection o with o;subst o;exact hn6⟩);have Z:=Hh (HB5.out.trans H);clear C H;go_wp2_with fail;go_end0;exact⟨rfl,⟨_,_,_,_,HF.out⟩,by rw[<-HWO.out];exact Z.out⟩
 by_cases e5:od=5
 ·subst e5;clear c0 c4 e0 e1 e2 e3 e4;obtain⟨R,p,N,hR,hq,T,ho,hnw,hj,hca,hat,r⟩:=A.out.get D;obtain⟨hd,ns,hhd,hnt,hnl,hld,hsl⟩:=A.out.si.load hR;obtain⟨Rb,hRb⟩:∃Rb,Rb=R.bare.base:=⟨_,rfl⟩
  rw[<-hRb]at hld hsl;have hbase:R.line.base=Rb.line.base:=by rw[hRb];rfl
  rw[hbase]at hsl;have hrsl:=A.out.si.rsl;have hRb1:(G.rs.set I Rb)[I]? =some Rb:=by rw[aZ (by rw[hrsl];exact D),if_pos rfl]
  obtain⟨hrib,hob,hnwb, -, -, -⟩:=hsl.ri I Rb hRb1;obtain⟨W,g',P⟩:=hsl.idle (by omega) hRb1;obtain⟨mh,hmh,hmb⟩:∃mh,M.hs[I]? =some mh/\mh.b=hd:=by
   have F:=r.ct.hq;have h8:(M.hs.map aV.b)[I]? =some hd:=by rw[F];exact hhd
   rw[List.getElem?_map]at h8;cases h7:M.hs[I]? with
   | none=>rw[h7]at h8;cases h8
   | some mh=>rw[h7]at h8;injection h8 with h8;exact⟨mh,rfl,h8⟩
  obtain⟨mt,hmt,hmn⟩:∃mt,M.ts[I]? =some mt/\mt.ns.map aV.b=ns:=by
   have F:=r.ct.tq;have h8:(M.ts.map d9.p)[I]? =some ns:=by rw[F];exact hnt
   rw[List.getElem?_map]at h8;cases h7:M.ts[I]? with
   | none=>rw[h7]at h8;cases h8
   | some mt=>rw[h7]at h8;injection h8 with h8;exact⟨mt,rfl,h8⟩
  have hhl:M.hs.length=n:=by have F:=congrArg List.length r.ct.hq;rw[List.length_map]at F;rw[F];exact A.out.si.hdl
  have htl:M.ts.length=n:=by have F:=congrArg List.length r.ct.tq;rw[List.length_map]at F;rw[F];exact A.out.si.ntl
  have hal:G.ats.length=n:=A.out.si.atl;obtain⟨q0,hq01,hq02,hq03,hq04, -⟩:=r.rowAt (j:=0) (by omega) rfl (k:=I) (by show I<M.ps.length;rw[A.out.pl];exact D);obtain⟨q1,hq11,hq12,hq13, -⟩:=r.rowAt (j:=1) (by omega) rfl (k:=I) (by show I<M.hs.length;rw[hhl];exact D);obtain⟨q2,hq21,hq22,hq23, -⟩:=r.rowAt (j:=2) (by omega) rfl (k:=I) (by show I<M.ts.length;rw[htl];exact D);have e0':bR G M 0=n:=A.out.pl;have e1':bR G M 1=n:=hhl;have e2':bR G M 2=n:=htl;rw[e0']at hq02;rw[e1']at hq12;rw[e2']at hq22;have HSV:=Hh (show yF g n I q0 (M.rc 0) q1 (M.rc 1) q2 (M.rc 2) (.slice mh.a mh.b.length mh.c) (.slice mt.a mt.ns.length mt.c) W3 from⟨r.lt (x:= .g) rfl,hq02,hq12,by rw[hq13];show(M.hs.map aV.cell)[I]? =_;rw[List.getElem?_map,hmh];rfl,hq22,by rw[hq23];show(M.ts.map d9.cell)[I]? =_;rw[List.getElem?_map,hmt];rfl⟩);have O:=Hh r;have HQ:=Hh hq;have HLD:=Hh hld;have HMB:=Hh hmb;have HMN:=Hh hmn;have HMH:=Hh hmh;have HMT:=Hh hmt;have HQ01:=Hh hq01;have HRIB:=Hh hrib;have HNOB:=Hh (And.intro hnwb hob);have HSI:=Hh P;have HCW:=Hh W;have HAL:=Hh hal;have HPL:=Hh (show M.ps.length=n from A.out.pl);have hnl2:mt.ns.length<=1000000000:=by have F:=congrArg List.length hmn;rw[List.length_map]at F;omega
  have hI0:(0:Int)<=(I:Int):=by omega
  have hI1:(I:Int)<(n:Int):=by omega
  clear hR hq T ho hnw hj hca hat r hhd hnt hnl hld hsl hRb hbase hrsl hRb1 hrib hob hnwb W P hmh hmb hmt hmn hhl htl hal hq01 hq02 hq03 hq04 hq11 hq12 hq13 hq21 hq22 hq23 e0' e1' e2';go_wp2_with fail;refine lT (S:=yF g n I q0 (M.rc 0) q1 (M.rc 1) q2 (M.rc 2) (.slice mh.a mh.b.length mh.c) (.slice mt.a mt.ns.length mt.c)) ?_;intro Y l;have H4:=Hh (O.out.below l);have d:yF g n I q0 (M.rc 0) q1 (M.rc 1) q2 (M.rc 2) (.slice mh.a mh.b.length mh.c) (.slice mt.a mt.ns.length mt.c) Y:=HSV.out.below l;refine hT 0 136 d ?_;refine hT 1 137 d ?_;refine hT 6 142 d ?_;refine hT 10 146 d ?_;refine hT 13 149 d ?_;refine hT 17 153 d ?_;refine hT 2 138 d ?_;refine hT 7 143 d ?_;refine hT 14 150 d ?_;refine hT 3 139 d ?_;refine hT 8 144 d ?_;refine hT 15 151 d ?_;refine hT 4 140 d ?_;refine hT 9 145 d ?_;refine hT 16 152 d ?_;refine hT 5 141 d ?_;refine hT 11 147 d ?_;refine hT 18 154 d ?_;refine hT 12 148 d ?_;refine hT 19 155 d ?_;have HSX:=Hh d;clear d;have hbh:=H4.out.ct.hb mh (List.mem_of_getElem? HMH.out);have hsn:SlAt Y Y.heap.size 1 mt.a mt.ns.length mt.c (mt.ns.map aV.cell):=by obtain⟨a9,c9,e9,F⟩:=SlAt.ofOwns (H4.out.ct.tr mt (List.mem_of_getElem? HMT.out));injection e9 with e1 _ e3;subst e1 e3;exact F
  have hbn:=H4.out.ct.tb mt (List.mem_of_getElem? HMT.out);refine bp 20 ?_;go_simp;refine(vd I n (by omega) (by omega) (by omega) (by omega) mh.b mh.a mh.c mt.ns mt.a mt.c hnl2 _ hbh.1 hsn (fun m hm=>(hbn m hm).1)).mono ?_;intro e w5 h5;unfold yW at h5;rw[HMB.out,HMN.out,HLD.out]at h5;obtain⟨hb5,p',N',rfl,hr5,hf5⟩:=h5;have hS5:=HSX.out.below hb5;have H5:=Hh (H4.out.below hb5);have HR5:=Hh hr5;have HF5:=Hh hf5;have HB5:=Hh (HBB.out.trans ((l.trans (hb5.mono l.size)).mono O.out.bs));have HN5:=Hh (show N'.ps= [] by have F:=hr5.po.q;rw[HNOB.out.2]at F;exact List.map_eq_nil_iff.1 F)
  refine⟨hS5,?_⟩;refine hT 21 135 hS5 ?_;refine hT 22 157 hS5 ?_;refine hT 23 158 hS5 ?_;refine hT 24 7 hS5 ?_;refine hT 25 8 hS5 ?_;refine dc ?_;have HS5:=Hh hS5;clear hS5 hb5 hr5 hf5 hbh hsn hbn l;obtain⟨s0,hs01,c0,cp,fp, -⟩:=H5.out.rowAt (j:=0) (by omega) rfl (k:=I) (by show I<M.ps.length;rw[HPL.out];exact D);have hqs:s0=q0:=by rw[HQ01.out]at hs01;injection hs01 with e;injection e with e;exact e.symm
  subst hqs;have e0':bR G M 0=n:=HPL.out;rw[e0']at c0;obtain⟨V,hV⟩:∃V,V=w5.setCell ⟨s0,I,none⟩ (.pointer (some ⟨p',0,none⟩)):=⟨_,rfl⟩
  have C:=H5.out.setPtr (i:=I) (b:=s0) (cap:=M.rc 0) (by rw[HPL.out];exact D) (by show Value.slice (M.ra 0) M.ps.length (M.rc 0)=_;rw[hs01]) HR5.out HN5.out (fun k hk=>H4.out.free (HF5.out k hk));rw[<-hV]at C;have hq6:(M.ps.set I (p',N'))[I]? =some (p',N'):=by rw[aZ (by rw[HPL.out];exact D),if_pos rfl]
  have HG6:=Hh C;have HB6:=Hh (show Below B wo V from HB5.out.trans (by rw[hV];exact bQ (H5.out.inn (.row 0) s0 ⟨by omega,by rw[hs01];rfl⟩) _));have HV:=Hh hV;replace cp:w5.cell? ⟨s0,I,none⟩=some (.pointer (some ⟨p,0,none⟩)):=by rw[cp];show(M.ps.map i8)[I]? =_;rw[List.getElem?_map,HQ.out];rfl
  have hRb2:(G.rs.set I Rb)[I]? =some Rb:=by rw[aZ (by rw[<-A.out.gr.rl,HPL.out];exact D),if_pos rfl]
  have HRB:=Hh hRb2;clear C hV hs01 e0' hRb2;go_wp2_with fail;rw[<-HV.out];refine(qx HRIB.out.ok.line (HG6.out.rf I Rb (p',N') HRB.out hq6)).mono ?_;rintro e w7 ⟨q7,la7,lc7,rfl,hln7,hb7,hq7⟩;have HLN:=Hh hln7;have H7:=Hh (HG6.out.below hb7);have HB7:=Hh (HB6.out.trans (hb7.mono HG6.out.bs));clear hln7 hb7 c0 cp fp;go_wp2_with fail;refine(fM _ q7 Rb.line la7 lc7 N'.ms _ HLN.out).mono ?_;rintro e w8 ⟨rfl,m8,hm8⟩;have hb8:Below w7.heap.size w7 w8:=by rw[hm8];exact below_drewN w7 m8
  have H8:=Hh (H7.out.below hb8);have HB8:=Hh (HB7.out.trans (hb8.mono H7.out.bs));obtain⟨s3,hs31,c3,k3,f3, -⟩:=H8.out.rowAt (j:=3) (by omega) rfl (k:=I) (by show I<G.ats.length;rw[HAL.out];exact D);obtain⟨a3,ha3⟩:∃a3,G.ats[I]? =some a3:=⟨_,List.getElem?_eq_getElem (by rw[HAL.out];exact D)⟩
  replace k3:w8.cell? ⟨s3,I,none⟩=some (.int .i64 a3):=by rw[k3];show(G.ats.map iz)[I]? =_;rw[List.getElem?_map,ha3];rfl
  replace c3:w8.cell? ⟨g,3,none⟩=some (.slice (some ⟨s3,0,none⟩) n (M.rc 3)):=by rw[<-HAL.out];exact c3
  obtain⟨V9,hV9⟩:∃V9,V9=w8.setCell ⟨s3,I,none⟩ (.int .i64 Rb.line.base):=⟨_,rfl⟩
  have hg9:=H8.out.setAt (i:=I) (b:=s3) (cap:=M.rc 3) (by show I<G.ats.length;rw[HAL.out];exact D) (by show Value.slice (M.ra 3) G.ats.length (M.rc 3)=_;rw[show M.ra 3=some ⟨s3,0,none⟩ from hs31]) Rb.line.base;have hiz:iz Rb.line.base= .int .i64 Rb.line.base:=rfl;rw[hiz,<-hV9]at hg9;have HG9:=Hh hg9;have HB9:=Hh (show Below B wo V9 from HB8.out.trans (by rw[hV9];exact bQ (H8.out.inn (.row 3) s3 ⟨by omega,by show(M.ra 3).map (·.block)=_;rw[show M.ra 3=some ⟨s3,0,none⟩ from hs31];rfl⟩) _));have HV9:=Hh hV9;clear hb8 hm8 hg9 hV9 hs31 hiz;go_wp2_with fail;rw[<-HV9.out];refine(eP HG9.out hq6 HCW.out).mono ?_;rintro e w10 ⟨rfl,M6,N6,C,hp6,hn6,H⟩;have HF:=Hh (show fe w10 B g n (c+7) (kk+5) g' _ M6 I from⟨HSI.out.up (by omega) (by omega),C,fun q o=>by rw[hp6]at o;injection o with o;subst o;exact hn6⟩);have Z:=Hh (HB9.out.trans H);clear C H;go_wp2_with fail;go_end0;exact⟨rfl,⟨_,_,_,_,HF.out⟩,by rw[<-HWO.out];exact Z.out⟩
 by_cases e6:od=6
 ·subst e6;clear c0 c4 e0 e1 e2 e3 e4 e5;obtain⟨R,p,N,hR,hq,T,ho,hnw,hj,hca,hat,r⟩:=A.out.get D;obtain⟨hcw0,g0,hsi0⟩:=A.out.si.idle (by omega) hR;obtain⟨a,ha⟩:∃a:Nat,a=R.applied.toNat:=⟨_,rfl⟩
  have hap:R.applied=(a:Int):=by have h1:=T.ok.ap0;have h2:=T.ok.line.b0;omega
  have ha2:a<=10000:=by have h1:=hcw0.ap;have h2:=hcw0.sl;omega
  rw[hap]at hat;have hpl:=A.out.pl;have hal:G.ats.length=n:=A.out.si.atl;obtain⟨q0,hq01,hq02,hq03, -⟩:=r.rowAt (j:=0) (by omega) rfl (k:=I) (by show I<M.ps.length;rw[hpl];exact D);obtain⟨q3,hq31,hq32,hq33, -⟩:=r.rowAt (j:=3) (by omega) rfl (k:=I) (by show I<G.ats.length;rw[hal];exact D);have e0':bR G M 0=n:=hpl;have e3':bR G M 3=n:=hal;rw[e0']at hq02;rw[e3']at hq32;have HSV:=Hh (show yL g n I q0 (M.rc 0) p q3 (M.rc 3) a W3 from⟨r.lt (x:= .g) rfl,hq02,by rw[hq03];show(M.ps.map i8)[I]? =_;rw[List.getElem?_map,hq];rfl,hq32,by rw[hq33];show(G.ats.map iz)[I]? =_;rw[List.getElem?_map,hat];rfl⟩);have hI0:(0:Int)<=(I:Int):=by omega
  have hI1:(I:Int)<(n:Int):=by omega
  have O:=Hh r;have HR:=Hh hR;have HQ:=Hh hq;have z:=Hh T.ok;have HCW0:=Hh hcw0;have HSI0:=Hh hsi0;have HA:=Hh ha;clear hR hq T ho hnw hj hca hat r hcw0 hsi0 hap ha hq01 hq02 hq03 hq31 hq32 hq33 e0' e3' hpl hal;go_wp2_with fail;obtain⟨X,hX⟩:∃X:Nat,X=a / 256:=⟨_,rfl⟩
  obtain⟨Y,hY⟩:∃Y:Nat,Y=a%256:=⟨_,rfl⟩
  have tq:((a:Int)).tdiv 256=(X:Int):=by rw[hX];rfl
  have w1:IntKind.i64.wrap (X:Int)=(X:Int):=IntWalk.i64_in _ (by omega);have u1:IntKind.u8.wrap (X:Int)=(X:Int):=IntWalk.u8_in _ (by omega);have u2:IntKind.u8.wrap (a:Int)=(Y:Int):=by rw[IntKind.wrap_u8];omega
  have tq2:(a:Int) / 256=(X:Int):=by rw[hX];rfl
  have tq3:(a:Int)%256=(Y:Int):=by rw[hY];rfl
  have HX:=Hh hX;have HY:=Hh hY;clear hX hY;refine sQ (S:=yL g n I q0 (M.rc 0) p q3 (M.rc 3) a) 25 ?_;intro W4 l;have H4:=Hh (O.out.below l);have d:yL g n I q0 (M.rc 0) p q3 (M.rc 3) a W4:=HSV.out.below l;refine cK 0 186 d ?_;refine cK 4 190 d ?_;refine cK 7 193 d ?_;refine cK 11 197 d ?_;refine cK 16 202 d ?_;refine cK 20 206 d ?_;refine cK 1 187 d ?_;refine cK 8 194 d ?_;refine cK 17 203 d ?_;refine cK 2 188 d ?_;refine cK 9 195 d ?_;refine cK 18 204 d ?_;refine cK 3 189 d ?_;refine cK 10 196 d ?_;refine cK 19 205 d ?_;refine cK 5 191 d ?_;refine cK 12 198 d ?_;refine cK 21 207 d ?_;refine cK 6 192 d ?_;refine cK 13 199 d ?_;refine cK 22 208 d ?_;refine xo 14 200 (.int .i64 X) d ?_;refine xo 23 209 (.int .u8 Y) d ?_;refine xo 15 201 (.int .u8 X) d ?_;have HSX:=Hh d;clear d;obtain⟨U,hU⟩:∃U,U=W4.alloc (.cells #[.int .u8 X, .int .u8 Y] 5):=⟨_,rfl⟩
  have hbU:Below W4.heap.size W4 U:=by rw[hU];exact(Below.refl _ _).alloc (Nat.le_refl _) _
  have hbs:aM U U.heap.size (some ⟨W4.heap.size,0,none⟩) 2 2 (dn a):=by
   have e:(dn a).map bv= [.int .u8 X, .int .u8 Y]:=by
    have hX:=HX.out;have hY:=HY.out;unfold dn;simp only[List.map_cons,List.map_nil,bv,UInt8.toNat_ofNat']
    congr 2
    ·omega
    ·congr 2;omega
   have F:=uX W4 [.int .u8 X, .int .u8 Y] 5 (by unfold maxLen;simp);have hs:U.heap.size=W4.heap.size+1:=by rw[hU];simp
   refine aM.ofSl ?_ (by omega);rw[e,hs,hU];exact F
  have HBSU:=Hh hbs;have HUO:=Hh (H4.out.below hbU);have HSU:=Hh (HSX.out.below hbU);have HBU:=Hh (HBB.out.trans ((l.trans (hbU.mono l.size)).mono O.out.bs));have HW4:=Hh (show ¬N.own p W4.heap.size from fun hk=>by have F:=H4.out.lt (x:= .raft I) (k:=W4.heap.size) ⟨_,HQ.out,hk⟩;omega)
  have HU:=Hh hU;clear hbU hbs hU l;refine nV 24 ?_;go_simp;rw[<-HU.out];refine⟨HSU.out,?_⟩;refine yq ?_;go_simp;refine(qy p R N (dn a) (some ⟨W4.heap.size,0,none⟩) 2 z.out _ HBSU.out (fun _ ad had hk=>by injection had with had;subst had;exact HW4.out hk) (HUO.out.rf I R (p,N) HR.out HQ.out)).mono ?_;rintro e w5 ⟨rfl,N1,hr5,ht5⟩;obtain⟨R',hR'⟩:∃R',R'=(R.compact (dn a)).1:=⟨_,rfl⟩
  rw[<-hR']at hr5;have hg5:=HUO.out.putRaft HR.out HQ.out hr5 ht5;have HB5:=Hh (HBU.out.trans (ht5.below (fun k hk=>HUO.out.inn (.raft I) k ⟨_,HQ.out,hk⟩) HUO.out.bs));have hq5:(M.ps.set I (p,N1))[I]? =some (p,N1):=by rw[aZ (List.getElem?_eq_some_iff.1 HQ.out).1,if_pos rfl]
  obtain⟨M5,hM5⟩:∃M5:bG,M5={ M with ps:=M.ps.set I (p,N1) }:=⟨_,rfl⟩
  have HQ5:=Hh (show M5.ps[I]? =some (p,N1) by rw[hM5];exact hq5);rw[<-hM5]at hg5;have HG5:=Hh hg5;have HM5:=Hh (show M5.hs=M.hs/\M5.ts=M.ts by rw[hM5];exact⟨rfl,rfl⟩);have HRQ:=Hh hR';clear hg5 hr5 ht5 hq5 hM5 hR' tq tq2 tq3 w1 u1 u2;obtain⟨y,hy⟩:∃y,y=(R.compact (dn a)).2:=⟨_,rfl⟩
  rw[<-hy];cases y with
  | false=>
   have hRR:R'=R:=by
    rw[HRQ.out];have F:=hy;unfold aa.compact at F ⊢;split
    ·rfl
    ·rename_i h8;rw[if_neg h8]at F;cases F
   have HG6:=Hh (show aA w5 B g I G M5 by have F:=HG5.out;rw[hRR,gd HR.out]at F;exact F)
   clear hy hRR;go_wp2_with fail;refine(eP HG6.out HQ5.out HCW0.out).mono ?_;rintro e w6 ⟨rfl,M6,N6,C,hp6,hn6,H⟩;have HF:=Hh (show fe w6 B g n (c+7) (kk+5) g0 _ M6 I from⟨HSI0.out.up (by omega) (by omega),C,fun q o=>by rw[hp6]at o;injection o with o;subst o;exact hn6⟩);have Z:=Hh (HB5.out.trans H);clear C H;go_wp2_with fail;go_end0;exact⟨rfl,⟨_,_,_,_,HF.out⟩,by rw[<-HWO.out];exact Z.out⟩
  | true=>
   obtain⟨hput,hsl,hsc⟩:=A.out.si.compact (by omega) HR.out (by rw[<-HA.out];exact hy.symm);rw[<-HA.out,<-HRQ.out]at hput hsl hsc;have hil:I<G.rs.length:=by rw[A.out.si.rsl];exact D
   have hR1:(G.rs.set I R')[I]? =some R':=by rw[aZ hil,if_pos rfl]
   have hok5:=(hsc.ri I R' hR1).1.ok;obtain⟨W,g',P⟩:=hsc.idle (by omega) hR1;have HSI:=Hh P;have HCW:=Hh W;have hhl:M5.hs.length=n:=by rw[HM5.out.1];have F:=congrArg List.length A.out.gr.ct.hq;rw[List.length_map]at F;rw[F];exact A.out.si.hdl
   have htl:M5.ts.length=n:=by rw[HM5.out.2];have F:=congrArg List.length A.out.gr.ct.tq;rw[List.length_map]at F;rw[F];exact A.out.si.ntl
   have hpl:M5.ps.length=n:=by rw[HG5.out.rl];show(G.rs.set I R').length=n;rw[List.length_set];exact A.out.si.rsl
   obtain⟨r0,hr01,c0,cp, -, -⟩:=HG5.out.rowAt (j:=0) (by omega) rfl (k:=I) (by show I<M5.ps.length;rw[hpl];exact D);obtain⟨r1,hr11,c1, -, -, -⟩:=HG5.out.rowAt (j:=1) (by omega) rfl (k:=I) (by show I<M5.hs.length;rw[hhl];exact D);replace c0:w5.cell? ⟨g,0,none⟩=some (.slice (some ⟨r0,0,none⟩) n (M5.rc 0)):=by rw[<-hpl];exact c0
   replace c1:w5.cell? ⟨g,1,none⟩=some (.slice (some ⟨r1,0,none⟩) n (M5.rc 1)):=by rw[<-hhl];exact c1
   replace cp:w5.cell? ⟨r0,I,none⟩=some (.pointer (some ⟨p,0,none⟩)):=by rw[cp];show(M5.ps.map i8)[I]? =_;rw[List.getElem?_map,HQ5.out];rfl
   have HS5:=Hh (show yI g n I r0 (M5.rc 0) p r1 (M5.rc 1) w5 from⟨HG5.out.lt (x:= .g) rfl,c0,cp,c1⟩);have HR11:=Hh hr11;have HHL:=Hh hhl;have HTL:=Hh htl;have HOK5:=Hh hok5;have HRS:=Hh hR1;clear hy hsc hil hok5 W P hpl hhl htl hr01 hr11 c0 c1 cp hR1;go_wp2_with fail;refine sQ (S:=yI g n I r0 (M5.rc 0) p r1 (M5.rc 1)) 14 ?_;intro w6 l;have HG6:=Hh (HG5.out.below l);have d:yI g n I r0 (M5.rc 0) p r1 (M5.rc 1) w6:=HS5.out.below l;refine cK 0 212 d ?_;refine cK 4 216 d ?_;refine cK 5 217 d ?_;refine cK 9 221 d ?_;refine cK 1 213 d ?_;refine cK 6 218 d ?_;refine cK 2 214 d ?_;refine cK 7 219 d ?_;refine cK 3 215 d ?_;refine cK 8 220 d ?_;refine cK 10 222 d ?_;refine cK 11 223 d ?_;have HSX6:=Hh d;clear d;refine nV 12 ?_;go_simp;refine(mS p R' N1 HOK5.out.bt0 HOK5.out.bt1 HOK5.out.bf0 HOK5.out.bf1 HOK5.out.line hput hsl _ (HG6.out.rf I R' (p,N1) HRS.out HQ5.out)).mono ?_;rintro e w7 ⟨ha7,hc7,rfl,hby7,hb7, -⟩;have hS7:=HSX6.out.below hb7;have H7:=Hh (HG6.out.below hb7);have HB7:=Hh (HB5.out.trans ((l.trans (hb7.mono l.size)).mono HG5.out.bs));obtain⟨s1,hs11, -,k1,f1, -⟩:=H7.out.rowAt (j:=1) (by omega) rfl (k:=I) (by show I<M5.hs.length;rw[HHL.out];exact D);have hse:s1=r1:=by rw[HR11.out]at hs11;injection hs11 with e;injection e with e;exact e.symm
   subst hse;obtain⟨mh,hmh⟩:∃mh,M5.hs[I]? =some mh:=⟨_,List.getElem?_eq_getElem (by rw[HHL.out];exact D)⟩
   replace k1:w7.cell? ⟨s1,I,none⟩=some mh.cell:=by rw[k1];show(M5.hs.map aV.cell)[I]? =_;rw[List.getElem?_map,hmh];rfl
   refine⟨hS7,?_⟩;refine cK 13 225 hS7 ?_;refine yq ?_;refine aj 27 (.tmp 225) (.tmp 224) rfl s1 I (.slice ha7 R'.head.length hc7) _ rfl rfl rfl nB k1 f1 ?_;have hg8:=H7.out.setHead (i:=I) (b:=s1) (cap:=M5.rc 1) (by rw[HHL.out];exact D) (by show Value.slice (M5.ra 1) M5.hs.length (M5.rc 1)=_;rw[hs11]) ⟨ha7,hc7,R'.head⟩ hby7;have hcl8:aV.cell ⟨ha7,hc7,R'.head⟩= .slice ha7 R'.head.length hc7:=rfl;rw[hcl8]at hg8;obtain⟨V8,hV8⟩:∃V8,V8=w7.setCell ⟨s1,I,none⟩ (.slice ha7 R'.head.length hc7):=⟨_,rfl⟩
   rw[<-hV8]at hg8 ⊢;obtain⟨M8,hM8⟩:∃M8:bG,M8={ M5 with hs:=M5.hs.set I ⟨ha7,hc7,R'.head⟩ }:=⟨_,rfl⟩
   rw[<-hM8]at hg8;have HG8:=Hh hg8;have HQ8:=Hh (show M8.ps[I]? =some (p,N1) by rw[hM8];exact HQ5.out);have HB8:=Hh (show Below B wo V8 from HB7.out.trans (by rw[hV8];exact bQ (H7.out.inn (.row 1) s1 ⟨by omega,by rw[hs11];rfl⟩) _));have HT8:=Hh (show M8.ts.length=n by rw[hM8];exact HTL.out);clear hg8 hS7 hV8 hM8 hb7 l hby7 hs11 k1 f1 hmh;obtain⟨s2,hs21,c2,k2,f2, -⟩:=HG8.out.rowAt (j:=2) (by omega) rfl (k:=I) (by show I<M8.ts.length;rw[HT8.out];exact D);obtain⟨mt,hmt⟩:∃mt,M8.ts[I]? =some mt:=⟨_,List.getElem?_eq_getElem (by rw[HT8.out];exact D)⟩
   replace k2:V8.cell? ⟨s2,I,none⟩=some mt.cell:=by rw[k2];show(M8.ts.map d9.cell)[I]? =_;rw[List.getElem?_map,hmt];rfl
   replace c2:V8.cell? ⟨g,2,none⟩=some (.slice (some ⟨s2,0,none⟩) n (M8.rc 2)):=by rw[<-HT8.out];exact c2
   obtain⟨V9,hV9⟩:∃V9,V9=V8.setCell ⟨s2,I,none⟩ (.slice none 0 0):=⟨_,rfl⟩
   have hg9:=HG8.out.setNotes (i:=I) (b:=s2) (cap:=M8.rc 2) (by rw[HT8.out];exact D) (by show Value.slice (M8.ra 2) M8.ts.length (M8.rc 2)=_;rw[hs21]) ⟨none,0,[]⟩ ⟨rfl, .inl ⟨rfl,rfl⟩⟩ (fun m hm=>by cases hm) (fun k hk=>by cases hk);have hcl9:d9.cell ⟨none,0,[]⟩= .slice none 0 0:=rfl;rw[hcl9,<-hV9]at hg9;have HG9:=Hh hg9;have HB9:=Hh (show Below B wo V9 from HB8.out.trans (by rw[hV9];exact bQ (HG8.out.inn (.row 2) s2 ⟨by omega,by rw[hs21];rfl⟩) _));have HV9:=Hh hV9;clear hg9 hV9 hs21 hmt;go_wp2_with fail;rw[<-HV9.out];refine(eP HG9.out HQ8.out HCW.out).mono ?_;rintro e w10 ⟨rfl,M6,N6,C,hp6,hn6,H⟩;have HF:=Hh (show fe w10 B g n (c+7) (kk+5) g' _ M6 I from⟨HSI.out.up (by omega) (by omega),C,fun q o=>by rw[hp6]at o;injection o with o;subst o;exact hn6⟩);have Z:=Hh (HB9.out.trans H);clear C H;go_wp2_with fail;go_end0;exact⟨rfl,⟨_,_,_,_,HF.out⟩,by rw[<-HWO.out];exact Z.out⟩
 by_cases e7:od=7
 ·subst e7;clear c4 e0 e1 e2 e3 e4 e5 e6;obtain⟨R,p,N,hR,hq,T,ho,hnw,hj,hca,hat,r⟩:=A.out.get D;have hok:=T.ok;obtain⟨b0,J,hb2, -⟩:=r.ptr hq;rw[J]at c0;have O:=Hh r;have HR:=Hh hR;have HQ:=Hh hq;have z:=Hh hok;have HNO:=Hh (And.intro hnw ho);have hI0:(0:Int)<=(I:Int):=by omega
  have hI1:(I:Int)<(n:Int):=by omega
  clear hR hq T ho hnw hj hca hat r hok J;go_wp2_with fail;refine(jY p R N z.out.n1 z.out.n7 z.out.me0 z.out.men z.out.bt0 z.out.bt1 z.out.line z.out.xs z.out.tk0 (by have:=z.out.tk1;omega) (by rw[HNO.out.1];simp) (by rw[HNO.out.2];simp) _ (O.out.rf I R (p,N) HR.out HQ.out)).mono ?_;rintro e w5 ⟨rfl,N1,hr5,ht5⟩;have hg5:=O.out.putRaft HR.out HQ.out hr5 ht5;have HG5:=Hh hg5;have HB5:=Hh (HBB.out.trans (ht5.below (fun k hk=>O.out.inn (.raft I) k ⟨_,HQ.out,hk⟩) O.out.bs));have hq5:({ M with ps:=M.ps.set I (p,N1) }:bG).ps[I]? =some (p,N1):=by show(M.ps.set I _)[I]? =_;rw[aZ (List.getElem?_eq_some_iff.1 HQ.out).1,if_pos rfl]
  obtain⟨W,g',P⟩:=A.out.si.tick (by omega) HR.out;have HSI:=Hh P;have HCW:=Hh W;clear hg5 hr5 ht5 W P c0 hb2;go_wp2_with fail;refine(eP HG5.out hq5 HCW.out).mono ?_;rintro e w6 ⟨rfl,M6,N6,C,hp6,hn6,H⟩;have HF:=Hh (show fe w6 B g n (c+7) (kk+5) g' _ M6 I from⟨HSI.out.up (by omega) (by omega),C,fun q o=>by rw[hp6]at o;injection o with o;subst o;exact hn6⟩);have Z:=Hh (HB5.out.trans H);clear C H;go_wp2_with fail;go_end0;exact⟨rfl,⟨_,_,_,_,HF.out⟩,by rw[<-HWO.out];exact Z.out⟩
 ·have f0:(od==0)=false:=by simpa using e0
  have f1:(od==1)=false:=by simpa using e1
  have f2:(od==2)=false:=by simpa using e2
  have f3:(od==3)=false:=by simpa using e3
  have f4:(od==4)=false:=by simpa using e4
  have f5:(od==5)=false:=by simpa using e5
  have f6:(od==6)=false:=by simpa using e6
  have f7:(od==7)=false:=by simpa using e7
  clear c0 c4 e0 e1 e2 e3 e4 e5 e6 e7;obtain⟨R,p,N,hR,hq,T,ho,hnw,hj,hca,hat,r⟩:=A.out.get D;obtain⟨W,g',P⟩:=A.out.si.idle (by omega) hR;have O:=Hh r;have HQ:=Hh hq;have HSI:=Hh P;have HCW:=Hh W;clear hR hq T ho hnw hj hca hat r W P;go_wp2_with fail;refine(eP O.out HQ.out HCW.out).mono ?_;rintro e w6 ⟨rfl,M6,N6,C,hp6,hn6,H⟩;have HF:=Hh (show fe w6 B g n (c+7) (kk+5) g' _ M6 I from⟨HSI.out.up (by omega) (by omega),C,fun q o=>by rw[hp6]at o;injection o with o;subst o;exact hn6⟩);have Z:=Hh (HBB.out.trans H);clear C H;go_wp2_with fail;go_end0;exact⟨rfl,⟨_,_,_,_,HF.out⟩,by rw[<-HWO.out];exact Z.out⟩
end
end Go.Proofs.YtogcnfhmcpkdcaaGreat
