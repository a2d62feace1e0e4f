/-
Contract of place.
-/
import Derived.Test.YtogcnfhmcpkdcaaGreatRaftM4
import Derived.Test.YtogcnfhmcpkdcaaGreatRaftM3
import Derived.Test.YtogcnfhmcpkdcaaGreatRaftLaw3
set_option maxRecDepth 100000
set_option maxHeartbeats 2000000
namespace Go.Proofs.YtogcnfhmcpkdcaaGreat
open Go.RowKit
set_option linter.unusedVariables false
set_option linter.unusedSimpArgs false
theorem dS.touch{w w':World}{p:Nat}(h:dS p w w')(M:ay):ah p M M w w':=⟨h.os,h.tape,h.output,h.size,fun k b a=>h.block k b (fun e=>a (.inl e)),fun _ h=> .inl h⟩
theorem dS.ofBelow{p:Nat}{w w':World}(h:Below w.heap.size w w'):dS p w w':=⟨h.os,h.tape,h.output,h.size,fun k a _=>h.block k a⟩
theorem aM.setFar{w:World}{B:Nat}{a:Option Addr}{n c:Nat}{l:List UInt8}(h:aM w B a n c l){ad:Addr}{u:Value}(j:w.cell? ad=some u)(hu:∀x:Int,u≠.int .u8 x)(v:Value):aM (w.setCell ad v) B a n c l:=
 ⟨h.hlen,h.hle,h.hmax,h.hnil,h.hbig,fun g=>let ⟨b,o,e,hl,hcc⟩:=h.hat g;⟨b,o,e,hl,fun i f=>(World.cell?_setCell_other _ _ _ _ (fun k=>by have d:=hcc i f;rw[<-k,j]at d;injection d with d;exact hu _ d)).trans (hcc i f)⟩⟩
def ae.upTo(x:ae)(at_ :Int):ae:=⟨x.base,x.term,x.l.take (at_-x.base-1).toNat⟩
def aa.place(R:aa)(at_ :Int)(it:ar):Option aa:=
 if at_<=R.line.base\/R.line.last+1<at_ then none
 else if ((R.line.upTo at_).add it).2=at_ then some { R with line:=((R.line.upTo at_).add it).1 } else none
theorem vP(x:ae)(n:Int):x.from_ (x.base+1) n=x.l.take n.toNat:=by
 unfold ae.from_;have a:x.last=x.base+(x.l.length:Int):=rfl;by_cases h:x.base+1<=x.base\/x.last<x.base+1\/n<1
 ·rw[if_pos h];rcases h with h | h | h
  ·omega
  ·rw[List.eq_nil_of_length_eq_zero (show x.l.length=0 by omega)];simp
  ·rw[show n.toNat=0 by omega];simp
 ·rw[if_neg h,show(x.base+1-x.base-1).toNat=0 by omega];simp
theorem ae.Good.pre{x:ae}(h:x.Good)(k:Nat):(⟨x.base,x.term,x.l.take k⟩:ae).Good:=by
 have b:(x.l.take k).length<=x.l.length:=by rw[List.length_take];omega
 have:=h.n1;have:=h.n2;exact⟨h.b0,h.b1,h.t0,h.t1,by show(x.l.take k).length<=4096;omega,by show x.base+((x.l.take k).length:Int)<=1099511627776;omega,fun it a=>h.its it (List.mem_of_mem_take a)⟩
theorem x4{x:ae}(h:x.Good){j:Nat}{it:ar}(a:x.l[j]? =some it):(⟨x.base,x.term,x.l.take j⟩:ae).add it=(⟨x.base,x.term,x.l.take (j+1)⟩,x.base+(j:Int)+1):=by
 obtain⟨c,he⟩:=List.getElem?_eq_some_iff.1 a;have:=h.n1;have:=h.n2;have b:(x.l.take j).length=j:=by simp;omega
 unfold ae.add;rw[if_pos ⟨h.its it (List.mem_of_getElem? a),by simp only[cL,b,Bool.and_eq_true,decide_eq_true_eq];omega⟩];have d:x.l.take (j+1)=x.l.take j++ [it]:=by rw[List.take_add_one,a];rfl
 simp only[ae.last,b,d]
structure xN (q:Nat) (wF:World) (x:ae) (j:Nat) (la:Option Addr) (lc:Nat) (ms:List af) (wr:World):Prop where
 le:j<=x.l.length
 ln:cE wr q q ⟨x.base,x.term,x.l.take j⟩ la lc ms
 fr:∀g,(Value.slice la ms.length lc).ownBlock=some g->wF.heap.size<=g
 os:wr.os=wF.os
 tape:wr.tape=wF.tape
 output:wr.output=wF.output
 size:wF.heap.size<=wr.heap.size
 blk:∀k,k<wF.heap.size->k≠q->wr.heap[k]? =wF.heap[k]?
theorem xN.below{q:Nat}{a:World}{x:ae}{j:Nat}{la:Option Addr}{lc:Nat}{ms:List af}{wr w':World}(h:xN q a x j la lc ms wr)(hb:Below wr.heap.size wr w'):xN q a x j la lc ms w':=⟨h.le,h.ln.below hb,h.fr,hb.os.trans h.os,hb.tape.trans h.tape,hb.output.trans h.output,Nat.le_trans h.size hb.size,fun k c b=>(hb.block k (by have:=h.size;omega)).trans (h.blk k c b)⟩
theorem xN.next{q:Nat}{a:World}{x y:ae}{j:Nat}{la:Option Addr}{lc:Nat}{ms:List af}{wr w':World}(h:xN q a x j la lc ms wr)(hj:j+1<=x.l.length)(hy:y=⟨x.base,x.term,x.l.take (j+1)⟩)
 (c:dM q q y (Value.slice la ms.length lc).ownBlock wr w'):∃la' lc' ms',xN q a x (j+1) la' lc' ms' w':=by
 obtain⟨la',lc',ms',f,hT,n⟩:=c;subst hy;have o:=h.size;have d:=hT.size;refine⟨la',lc',ms',hj,f,fun g m=> ?_,hT.os.trans h.os,hT.tape.trans h.tape,hT.output.trans h.output,by omega,fun k i b=>(hT.block k (by omega) b (fun e=> ?_)).trans (h.blk k i b)⟩
 ·rcases n g m with e | e
  ·exact h.fr g e
  ·omega
 ·have:=h.fr k e.symm;omega
def yV(p:Nat)(M:ay)(w:World)(o:Option aa)(e:Ending)(w':World):Prop:=∃a,ah p M a w w'/\match o with
 | none=>e= .returned (.bool false)
 | some R'=>e= .returned (.bool true)/\ao w' p R' a
theorem uf(p:Nat)(R:aa)(M:ay)(at_ :Int)(ha0:0<=at_)(ha1:at_<=1099511627776)(t:Int)(a:Option Addr)(c:Nat)(b:List UInt8)(hg:R.line.Good)(w:World)(h:ao w p R M)(hb:aM w w.heap.size a b.length c b):
  Calls Tryz.prog 98 #[.pointer (some ⟨p,0,none⟩), .int .i64 at_, .agg #[.int .i64 t, .slice a b.length c]] w (yV p M w (R.place at_ (t,b))):=by
 have c4:w.cell? ⟨p,4,none⟩=some (.pointer (some ⟨M.lb,0,none⟩)):=h.c rfl;obtain⟨U,N⟩:∃U,U=w.alloc (.cells #[.int .i64 t, .slice a b.length c] 40):=⟨_,rfl⟩
 have s:Below w.heap.size w U:=by rw[N];exact(Below.refl _ _).alloc (Nat.le_refl _) _
 have hr0:U.heap[w.heap.size]? =some (.cells #[.int .i64 t, .slice a b.length c] 40 (0,0)):=by rw[N];exact heap_alloc_new w _
 have hs0:U.heap.size=w.heap.size+1:=by rw[N];simp
 have hpl:=h.lt;have c4':U.cell? ⟨p,4,none⟩=some (.pointer (some ⟨M.lb,0,none⟩)):=(s.cell (p:=⟨p,4,none⟩) hpl).trans c4;have HW0:=Hh N;have P:=Hh (h.ln.below s);have HR:=Hh h;have HR0:=Hh (h.below s);have HB0:=Hh s;have HRB:=Hh hr0;have HB1:=Hh hb;have HBB:=Hh ((hb.below s (Nat.le_refl _)).mono s.size);have HG:=Hh hg;have hgb0:=hg.b0;have hgb1:=hg.b1;have hgt0:=hg.t0;have hgt1:=hg.t1;have hgn:=hg.n2;have hgm:=hg.n1;have f:R.line.last=R.line.base+(R.line.l.length:Int):=rfl;obtain⟨X,hX⟩:∃X,R.line=X:=⟨_,rfl⟩
 have HX:=Hh hX;rw[hX]at hgb0 hgb1 hgt0 hgt1 hgn hgm f;have P:=Hh (show cE U 0 M.lb X M.la M.lc M.ms by rw[<-hX];exact P.out);have HG:=Hh (show X.Good by rw[<-hX];exact HG.out);obtain⟨B,hB⟩:∃B,X.base=B:=⟨_,rfl⟩
 obtain⟨T,hT⟩:∃T,X.term=T:=⟨_,rfl⟩
 obtain⟨L,hL⟩:∃L,X.last=L:=⟨_,rfl⟩
 obtain⟨O,hO⟩:∃O,R.place at_ (t,b)=O:=⟨_,rfl⟩
 rw[hO];have HO:=Hh (show O=if at_<=B\/L+1<at_ then none
  else if ((X.upTo at_).add (t,b)).2=at_ then some { R with line:=((X.upTo at_).add (t,b)).1 } else none by rw[<-hO,aa.place,hX,hB,hL])
 have a0:=Hh hB;have HTQ:=Hh hT;have HLQ:=Hh hL;rw[hB]at hgb0 hgb1 hgn f;rw[hT]at hgt0 hgt1;rw[hL]at f;have HLAST:=Hh f;have wl:IntKind.i64.wrap (L+1)=L+1:=IntWalk.i64_in _ (by omega);have hL0:0<=L:=by omega
 have hL1:L<=1099511627776:=by omega
 clear hX hB hT hL hO N s hr0 f h hb hg;go_enter Tryz.func98,Tryz.ntmps98
 go_wp2_with fail;rw[<-HW0.out];clear c4;refine(fM 0 M.lb X M.la M.lc M.ms _ P.out).mono ?_;rintro e w1 ⟨rfl,m1,rfl⟩;rw[a0.out,HTQ.out];go_wp2_with fail;refine(kj 0 M.lb X HG.out M.la M.lc M.ms _ (P.out.drewN m1)).mono ?_;rintro e w2 ⟨rfl,m2,rfl⟩;rw[HLQ.out];obtain⟨tm,htm⟩:∃tm,(bk X L).1=tm:=⟨_,rfl⟩
 rw[htm];clear htm;obtain⟨F,hW2⟩:∃F,F=(U.drewN m1).drewN m2:=⟨_,rfl⟩
 rw[<-hW2];have q:Below U.heap.size U F:=by rw[hW2];exact(below_drewN _ _).trans ((below_drewN _ _).mono (by simp))
 have c4:F.cell? ⟨p,4,none⟩=some (.pointer (some ⟨M.lb,0,none⟩)):=(q.cell (p:=⟨p,4,none⟩) (by show p<_;omega)).trans c4';have a2:=Hh (HB0.out.trans (q.mono HB0.out.size));have HLN2:=Hh (P.out.below q);have HRB2:=Hh ((q.block _ (by omega)).trans HRB.out);have HBB2:=Hh ((HBB.out.below q (Nat.le_refl _)).mono q.size);have hs2:=q.size;clear q hW2 c4';by_cases h1:at_<=B
 ·have t1:decide (at_<=B)=true:=by simpa using h1
  have hON:O=none:=by rw[HO.out,if_pos (.inl h1)]
  subst hON;clear h1;go_wp2;go_ret;exact⟨M, .ofBelow a2.out,rfl⟩
 by_cases S:L+1<at_
 ·have t1:decide (at_<=B)=false:=by simpa using h1
  have t2:decide (L+1<at_)=true:=by simpa using S
  have hON:O=none:=by rw[HO.out,if_pos (.inr S)]
  subst hON;clear h1 S;go_wp2;go_ret;exact⟨M, .ofBelow a2.out,rfl⟩
 have t1:decide (at_<=B)=false:=by simpa using h1
 have t2:decide (L+1<at_)=false:=by simpa using S
 have HON:=Hh (show O=if ((X.upTo at_).add (t,b)).2=at_ then some { R with line:=((X.upTo at_).add (t,b)).1 } else none by rw[HO.out,if_neg (by omega)]);have HAT:=Hh (show B<at_/\at_<=L+1 by omega);have w3:IntKind.i64.wrap (B+1)=B+1:=IntWalk.i64_in _ (by omega);have w4:IntKind.i64.wrap (at_-B)=at_-B:=IntWalk.i64_in _ (by omega);have w5:IntKind.i64.wrap (at_-B-1)=at_-B-1:=IntWalk.i64_in _ (by omega);have hnew:lB B T=true:=by simp[lB,oY];omega
 clear h1 S;go_wp2_with fail;refine(fS B T hnew _).mono ?_;rintro e w6 ⟨rfl,hln6,Z,hs6⟩;have hq:w.heap.size<F.heap.size:=by omega
 have c4:w6.cell? ⟨p,4,none⟩=some (.pointer (some ⟨M.lb,0,none⟩)):=(Z.cell (p:=⟨p,4,none⟩) (by show p<_;omega)).trans (by assumption);have HLN6:=Hh (HLN2.out.below Z);have HNW6:=Hh hln6;have HB6:=Hh Z;clear hln6 Z hnew;go_wp2_with fail;refine(kQ 0 M.lb X HG.out M.la M.lc M.ms (B+1) (at_-B-1) _ HLN6.out).mono ?_;rintro e wF ⟨ia,ic,i,rfl,hown,A,Y⟩;have hn:at_-B-1=((at_-B-1).toNat:Int):=by have:=HAT.out;omega
 obtain⟨n,hnn⟩:∃n:Nat,(at_-B-1).toNat=n:=⟨_,rfl⟩
 rw[hnn]at hn;have hnl:n<=X.l.length:=by have:=HAT.out;have:=HLAST.out;omega
 rw[hn,show B+1=X.base+1 by rw[a0.out],vP,Int.toNat_natCast]at A;have hol:i.length=n:=by have h9:=congrArg List.length A;simpa[Nat.min_eq_left hnl] using h9
 have HOL:=Hh hol;have HN:=Hh hn;have hit:∀(j:Nat) (m:af),i[j]? =some m->X.l[j]? =some m.it:=fun j m hj=>by
  have hlt:=(List.getElem?_eq_some_iff.1 hj).1;have h9:(i.map af.it)[j]? =some m.it:=by simp[hj]
  rw[A,List.getElem?_take_of_lt (by omega)]at h9;exact h9
 have HIT:=Hh hit;have C:=Hh hown;have a1:=Hh Y;have HP0:=Hh (show xN F.heap.size wF X 0 none 0 [] wF from⟨by omega,by have h9:=HNW6.out.below Y;rw[<-a0.out,<-HTQ.out]at h9;exact h9,(fun g hg=>by cases hg),rfl,rfl,rfl,Nat.le_refl _,fun _ _ _=>rfl⟩);have hol2:i.length<=4096:=by omega
 have hol3:i.length<=X.l.length:=by omega
 have hsF:=Y.size;clear hn hnn A hol hit hown Y c4;go_wp2_with fail;obtain⟨wo,rfl⟩:∃wo:World,wo=wF:=⟨_,rfl⟩
 go_loopw [54] (fun iv wr=>∃(j:Nat) (la:Option Addr) (lc:Nat) (ms:List af),iv= .int .i64 j/\j<=i.length/\xN F.heap.size wo X j la lc ms wr) (fun iv _=>i.length-(intOf iv).toNat)
 case atStart=>exact⟨0,none,0,[],rfl,by omega,HP0.out⟩
 case round=>
  obtain⟨j,la,lc,ms,rfl,hj,G⟩:=hrel;have W:=Hh G;have hszr:=G.size;clear G;by_cases hlt:j<i.length
  ·have tj:decide ((j:Int)<(i.length:Int))=true:=by simpa using hlt
   have hk0:(0:Int)<=(j:Int):=by omega
   have hk1:(j:Int)<(i.length:Int):=by omega
   obtain⟨m,hm⟩:∃m,i[j]? =some m:=⟨_,List.getElem?_eq_getElem hlt⟩
   have hmm:=List.mem_of_getElem? hm;have HX9:=Hh (HIT.out j m hm);have howr:wr.ownsRow w6.heap.size 40 2 (.slice ia i.length ic) i.length (aK i):=aE C.out.own fun g hg=>W.out.blk g (own_lt C.out.own hg).2 (by have:=(own_lt C.out.own hg).1;omega)
   have hmb:OwnBs 5 wr m:=(C.out.bs m hmm).grown (T:=5) (fun k cs fr hk hc=>W.out.blk k hk (fun e=>by have h8:=HNW6.out.row;rw[<-a1.out.block _ (by omega),<-e]at h8;obtain⟨-, -, -, -, -, -, -, -,t9, -⟩:=iC;exact t9 (aB hc h8).symm)) hszr
   obtain⟨a9,c9,e9,hs9⟩:=SlAt.ofOwns howr;injection e9 with e10 _ e12;subst e10;subst e12;obtain⟨b9,o,rfl,hb9,hc⟩:=hs9.hat (by have:=eM i;omega);have hcl:=eM i;obtain⟨e0,e1⟩:=dF i j m hm;have H:=hmb.1;have hmn:m.n=m.b.length:=H.hlen.symm;rw[hmn]at e1;have k0:wr.cell? ⟨b9,o+j*2,none⟩=some (.int .i64 m.t):=(hc _ (by omega)).trans e0;have k1:wr.cell? ⟨b9,o+j*2+1,none⟩=some (.slice m.a m.b.length m.c):=by rw[Nat.add_assoc];exact(hc _ (by omega)).trans e1
   obtain⟨Wb,hWb⟩:∃Wb,Wb=wr.alloc (.cells #[.int .i64 m.t, .slice m.a m.b.length m.c] 40):=⟨_,rfl⟩
   have J:Below wr.heap.size wr Wb:=by rw[hWb];exact(Below.refl _ _).alloc (Nat.le_refl _) _
   have HMB:=Hh (show aM Wb Wb.heap.size m.a m.b.length m.c m.b from by rw[<-hmn];exact(H.below J (Nat.le_refl _)).mono J.size);have HLB:=Hh (W.out.below J);have HWB:=Hh hWb;have hszb:=J.size;clear hc e0 e1 hs9 hmn hmb H howr hWb J hm hmm;go_wp2_with fail;rw[<-HWB.out];refine(mj F.heap.size F.heap.size ⟨X.base,X.term,X.l.take j⟩ (HG.out.pre j) la lc ms m.t m.a m.c m.b _ HLB.out.ln HMB.out (by omega)).mono ?_;rintro e w9 ⟨rfl,D⟩;rw[show((m.t,m.b):ar)=m.it from rfl,x4 HG.out HX9.out]at D;obtain⟨la2,lc2,ms2,hnx⟩:=HLB.out.next (by omega) rfl D;have HNX:=Hh hnx;obtain⟨z,hz⟩:∃z,(ae.add ⟨X.base,X.term,X.l.take j⟩ (m.t,m.b)).2=z:=⟨_,rfl⟩
   rw[hz];clear hnx D hz k0 k1;go_wp2;go_roundw
   case rel=>exact⟨j+1,la2,lc2,ms2,by go_num,by omega,HNX.out⟩
   case measure=>simp[intOf];omega
  ·have tj:decide ((j:Int)<(i.length:Int))=false:=by simp;omega
   obtain rfl:j=i.length:=by omega
   have v:wr.heap[p]? =some (.cells (aP R M).toArray 84 (0,0)):=(W.out.blk p (by omega) (by omega)).trans ((a1.out.block p (by omega)).trans ((HB6.out.block p (by omega)).trans ((a2.out.block p (by omega)).trans HR.out.row)))
   have c4:wr.cell? ⟨p,4,none⟩=some (.pointer (some ⟨M.lb,0,none⟩)):=by rw[cell_of_row _ _ _ _ _ _ v];rfl
   have f4:wr.frozen? ⟨p,4,none⟩=false:=frozen_of_row _ _ _ _ _ v;have d:Below w.heap.size w wr:=by have h6:=HB6.out;have S:=a2.out;have hF:=a1.out;refine⟨W.out.os.trans (hF.os.trans (h6.os.trans S.os)),W.out.tape.trans (hF.tape.trans (h6.tape.trans S.tape)),W.out.output.trans (hF.output.trans (h6.output.trans S.output)),by omega,fun k hk=> ?_⟩;exact(W.out.blk k (by omega) (by omega)).trans ((hF.block k (by omega)).trans ((h6.block k (by omega)).trans (S.block k hk)))
   have hx4:wr.cell? ⟨w.heap.size,0,none⟩=some (.int .i64 t)/\wr.cell? ⟨w.heap.size,1,none⟩=some (.slice a b.length c):=by
    have h8:wr.heap[w.heap.size]? =some (.cells #[.int .i64 t, .slice a b.length c] 40 (0,0)):=(W.out.blk _ (by omega) (by omega)).trans ((a1.out.block _ (by omega)).trans ((HB6.out.block _ (by omega)).trans HRB2.out))
    exact⟨cell_of_row _ _ 0 _ _ _ h8,cell_of_row _ _ 1 _ _ _ h8⟩
   obtain⟨x0,x1⟩:=hx4;have hup:(⟨X.base,X.term,X.l.take i.length⟩:ae)=X.upTo at_:=by unfold ae.upTo;have hh:=HN.out;have hh2:=HOL.out;rw[a0.out,show(at_-B-1).toNat=i.length by omega]
   have I:=W.out.ln;rw[hup]at I;have HHD:=Hh (HR.out.headed (R1:=R) (M1:=M) (dS.ofBelow d) v HR.out.sv rfl rfl rfl (HR.out.below d).st I (by omega));obtain⟨V,hV⟩:∃V,V=wr.setCell ⟨p,4,none⟩ (.pointer (some ⟨F.heap.size,0,none⟩)):=⟨_,rfl⟩
   have HHV:=Hh (show ao V p { R with line:=X.upTo at_ } { M with lb:=F.heap.size,la:=la,lc:=lc,ms:=ms }/\ah p M { M with lb:=F.heap.size,la:=la,lc:=lc,ms:=ms } w V by rw[hV];exact HHD.out);have HV:=Hh hV;have HBV:=Hh (show aM V V.heap.size a b.length c b from by rw[hV];exact(((HB1.out.below d (Nat.le_refl _)).setFar c4 (by intro x e;cases e) _).mono (by simpa using d.size)));clear v d hup I hV;go_wp2_with fail;rw[<-HV.out];clear c4 f4 x0 x1;refine(mj 0 F.heap.size (X.upTo at_) (by unfold ae.upTo;exact HG.out.pre _) la lc ms t a c b _ HHV.out.1.ln HBV.out (Nat.zero_le _)).mono ?_;rintro e w9 ⟨rfl,D⟩;obtain⟨la9,lc9,ms9,hr9,ht9⟩:=HHV.out.1.lined D;have HR9:=Hh hr9;have HT9:=Hh (HHV.out.2.trans ht9);obtain⟨r,hr⟩:∃r,(X.upTo at_).add (t,b)=r:=⟨_,rfl⟩
   rw[hr];have HQ:=Hh hr;clear D hr9 ht9;obtain⟨y,z⟩:=r;rw[hr]at HON;clear hr;go_wp2;go_ret;by_cases hz:z=at_
   ·have hO9:O=some { R with line:=y }:=by rw[HON.out,if_pos hz]
    subst hO9;have h8:=HR9.out;rw[HQ.out]at h8;exact⟨_,HT9.out,by rw[hz];simp,h8⟩
   ·have hO9:O=none:=by rw[HON.out,if_neg hz]
    subst hO9;exact⟨_,HT9.out,by simp[hz]⟩
inductive lO where
 | bal (t f:Nat)
 | itm (at_ t:Nat) (b:List UInt8)
def fN(r:List UInt8):bO lO:=(dX r).bind fun v a=> .ok (.bal v.1 v.2) a
def eY(r:List UInt8):bO lO:=(ak 1099511627776 r).bind fun at_ d=>(ak 1099511627776 d).bind fun t c=>(aT 8192 c).bind fun b a=>if at_=0 then .err 5 else .ok (.itm at_ t b) a
def dk(l:List UInt8):bO lO:=(ak 2 l).bind fun k r=>if k=1 then fN r else if k=2 then eY r else .err 25
theorem qm{α:Type}(x:Int)(h:x≠0):(bO.err x:bO α).sane:=fun y e=>by injection e with e;omega
theorem tZ(l:List UInt8):(dk l).sane:=bO.sane_bind (bL _ _) fun k r=>by
 by_cases d:k=1
 ·rw[if_pos d];exact bO.sane_bind (qo _) fun _ _=>dQ _ _
 ·rw[if_neg d];by_cases c:k=2
  ·rw[if_pos c];exact bO.sane_bind (bL _ _) fun a _=>bO.sane_bind (bL _ _) fun _ _=>bO.sane_bind (gj _ _) fun _ _=>by
    by_cases b:a=0
    ·rw[if_pos b];exact qm 5 (by decide)
    ·rw[if_neg b];exact dQ _ _
  ·rw[if_neg c];exact qm 25 (by decide)
structure xC (w:World) (q p rb ab ib:Nat):Prop where
 hq:q<w.heap.size
 hp:p<w.heap.size
 hr:rb<w.heap.size
 ha:ab<w.heap.size
 hi:ib<w.heap.size
 qp:q≠p
 qr:q≠rb
 qa:q≠ab
 qi:q≠ib
 pr:p≠rb
 pa:p≠ab
 pi:p≠ib
 ra:rb≠ab
 ri:rb≠ib
 ai:ab≠ib
 c:w.cell? ⟨rb,0,none⟩=some (.pointer (some ⟨p,0,none⟩))
structure Nt (w:World) (q p ab ib:Nat) (W:World) (r:List UInt8) (R:aa) (M:ay) (A T:Int) (v:Value):Prop where
 os:W.os=w.os
 tape:W.tape=w.tape
 output:W.output=w.output
 size:w.heap.size<=W.heap.size
 blk:∀k,k<w.heap.size->k≠q->k≠p->k≠ab->k≠ib->W.heap[k]? =w.heap[k]?
 eye:bF W q r
 row:W.heap[p]? =some (.cells (aP R M).toArray 84 (0,0))
 xa:W.heap[ab]? =some (.cells #[.int .i64 A] 3 (0,0))
 xi:W.heap[ib]? =some (.cells #[.int .i64 T,v] 40 (0,0))
section
variable {w W W' : World} {q p rb ab ib : Nat} {r r' : List UInt8} {R R' : aa} {M M' : ay} {v v' : Value} {A T : Int}
theorem Nt.but(h:Nt w q p ab ib W r R M A T v)(hw:xC w q p rb ab ib)(hb:fV q W W')(he:bF W' q r'):Nt w q p ab ib W' r' R M A T v:=by have b:=h.size;have:=hw.hp;have:=hw.ha;have:=hw.hi;exact⟨hb.os.trans h.os,hb.tape.trans h.tape,hb.output.trans h.output,Nat.le_trans b hb.size,fun k f a e d c=>(hb.block k (by omega) a).trans (h.blk k f a e d c),he,(hb.block _ (by omega) hw.qp.symm).trans h.row,(hb.block _ (by omega) hw.qa.symm).trans h.xa,(hb.block _ (by omega) hw.qi.symm).trans h.xi⟩
theorem Nt.below(h:Nt w q p ab ib W r R M A T v)(hw:xC w q p rb ab ib)(hb:Below W.heap.size W W'):Nt w q p ab ib W' r R M A T v:=h.but hw (fV.ofBelow (Nat.lt_of_lt_of_le hw.hq h.size) hb) (h.eye.below hb)
theorem Nt.box(h:Nt w q p ab ib W r R M A T v)(hw:xC w q p rb ab ib):W.cell? ⟨rb,0,none⟩=some (.pointer (some ⟨p,0,none⟩)):=(World.cell?_of_block (a:=⟨rb,0,none⟩) (h.blk rb hw.hr hw.qr.symm hw.pr.symm hw.ra hw.ri)).trans hw.c
theorem Nt.c(h:Nt w q p ab ib W r R M A T v){i:Nat}{u:Value}(a:(aP R M)[i]? =some u):W.cell? ⟨p,i,none⟩=some u:=by rw[cell_of_row _ _ _ _ _ _ h.row,List.getElem?_toArray];exact a
theorem Nt.f(h:Nt w q p ab ib W r R M A T v)(i:Nat):W.frozen? ⟨p,i,none⟩=false:=frozen_of_row _ _ _ _ _ h.row
theorem Nt.setp(h:Nt w q p ab ib W r R M A T v)(hw:xC w q p rb ab ib)(i:Nat)(x u:Value)(hi:(aP R M)[i]? =some u)(hu:∀c:Int,u≠.int .u8 c)(hc:(aP R M).set i x=aP R' M'):Nt w q p ab ib (W.setCell ⟨p,i,none⟩ x) r R' M' A T v:=by
 have e:=heap_setCell_same W p i _ _ x h.row;have a:∀k,k≠p->(W.setCell ⟨p,i,none⟩ x).heap[k]? =W.heap[k]? :=fun k d=>Below.heap_setCell _ _ _ k d
 refine⟨h.os,h.tape,h.output,by simpa using h.size,fun k l j b g f=>(a k b).trans (h.blk k l j b g f),bF.setOther h.eye hw.qp.symm (h.c hi) hu x,?_,(a _ hw.pa.symm).trans h.xa,(a _ hw.pi.symm).trans h.xi⟩;rw[e,<-hc]
 simp
theorem Nt.seta(h:Nt w q p ab ib W r R M A T v)(hw:xC w q p rb ab ib)(A':Int):Nt w q p ab ib (W.setCell ⟨ab,0,none⟩ (.int .i64 A')) r R M A' T v:=by
 have f:=heap_setCell_same W ab 0 _ _ (.int .i64 A') h.xa;have a:∀k,k≠ab->(W.setCell ⟨ab,0,none⟩ (.int .i64 A')).heap[k]? =W.heap[k]? :=fun k d=>Below.heap_setCell _ _ _ k d
 refine⟨h.os,h.tape,h.output,by simpa using h.size,fun k l j i b g=>(a k b).trans (h.blk k l j i b g),bF.setOther h.eye hw.qa.symm (cell_of_row W ab 0 _ _ _ h.xa) (by intro c e;cases e) _,(a _ hw.pa).trans h.row,?_,(a _ hw.ai.symm).trans h.xi⟩;rw[f];rfl
theorem Nt.sett(h:Nt w q p ab ib W r R M A T v)(hw:xC w q p rb ab ib)(T':Int):Nt w q p ab ib (W.setCell ⟨ib,0,none⟩ (.int .i64 T')) r R M A T' v:=by
 have f:=heap_setCell_same W ib 0 _ _ (.int .i64 T') h.xi;have a:∀k,k≠ib->(W.setCell ⟨ib,0,none⟩ (.int .i64 T')).heap[k]? =W.heap[k]? :=fun k d=>Below.heap_setCell _ _ _ k d
 refine⟨h.os,h.tape,h.output,by simpa using h.size,fun k l j i g b=>(a k b).trans (h.blk k l j i g b),bF.setOther h.eye hw.qi.symm (cell_of_row W ib 0 _ _ _ h.xi) (by intro c e;cases e) _,(a _ hw.pi).trans h.row,(a _ hw.ai).trans h.xa,?_⟩;rw[f];rfl
theorem Nt.setv(h:Nt w q p ab ib W r R M A T v)(hw:xC w q p rb ab ib)(hv:∀c:Int,v≠.int .u8 c)(x:Value):Nt w q p ab ib (W.setCell ⟨ib,1,none⟩ x) r R M A T x:=by
 have e:=heap_setCell_same W ib 1 _ _ x h.xi;have a:∀k,k≠ib->(W.setCell ⟨ib,1,none⟩ x).heap[k]? =W.heap[k]? :=fun k d=>Below.heap_setCell _ _ _ k d
 refine⟨h.os,h.tape,h.output,by simpa using h.size,fun k j i g f b=>(a k b).trans (h.blk k j i g f b),bF.setOther h.eye hw.qi.symm (cell_of_row W ib 1 _ _ _ h.xi) hv _,(a _ hw.pi).trans h.row,(a _ hw.ai).trans h.xa,?_⟩;rw[e];rfl
theorem Nt.err(h:Nt w q p ab ib W r R M A T v)(hw:xC w q p rb ab ib)(hb:fV q W W'){x:Int}{α:Type}{is:α->Prop}:ix q (fun k=>k=p\/k=ab\/k=ib) (.err x:bO α) w W' (bK x) is:=by have c:=h.size;exact⟨hb.os.trans h.os,hb.tape.trans h.tape,hb.output.trans h.output,Nat.le_trans c hb.size,fun k d b a=>(hb.block k (by omega) b).trans (h.blk k d b (fun e=>a (.inl e)) (fun e=>a (.inr (.inl e))) (fun e=>a (.inr (.inr e)))),fun _ h=>by cases h;rfl,fun _ _ h=>by cases h⟩
theorem Nt.cells(h:Nt w q p ab ib W r R M A T v):W.cell? ⟨ab,0,none⟩=some (.int .i64 A)/\W.cell? ⟨ib,0,none⟩=some (.int .i64 T)/\W.cell? ⟨ib,1,none⟩=some v/\W.frozen? ⟨ab,0,none⟩=false/\W.frozen? ⟨ib,0,none⟩=false/\W.frozen? ⟨ib,1,none⟩=false:=⟨cell_of_row W ab 0 _ _ _ h.xa,cell_of_row W ib 0 _ _ _ h.xi,cell_of_row W ib 1 _ _ _ h.xi,frozen_of_row _ _ _ _ _ h.xa,frozen_of_row _ _ _ _ _ h.xi,frozen_of_row _ _ _ _ _ h.xi⟩
end
def wH(p ab ib:Nat)(R:aa)(M:ay)(w w':World):lO->Prop
 | .bal t f=>w'.heap[p]? =some (.cells (aP { R with bt:=t,bf:=(f:Int)-1 } M).toArray 84 (0,0))/\w'.heap[ab]? =some (.cells #[.int .i64 0] 3 (0,0))
 | .itm at_ t b=>0<at_/\w'.heap[p]? =some (.cells (aP R M).toArray 84 (0,0))/\w'.heap[ab]? =some (.cells #[.int .i64 at_] 3 (0,0))/\∃a c,w'.heap[ib]? =some (.cells #[.int .i64 t, .slice a b.length c] 40 (0,0))/\w'.ownsRow w.heap.size 5 1 (.slice a b.length c) b.length (b.map bv)
theorem oh(q p rb ab B:Nat)(R:aa)(M:ay)(l:List UInt8)(w:World)(hw:xC w q p rb ab B)(h:Nt w q p ab B w l R M 0 0 (.slice none 0 0)):
  Calls Tryz.prog 95 #[.pointer (some ⟨q,0,none⟩), .pointer (some ⟨rb,0,none⟩), .pointer (some ⟨ab,0,none⟩), .pointer (some ⟨B,0,none⟩)] w fun e w'=>ix q (fun k=>k=p\/k=ab\/k=B) (dk l) w w' e (wH p ab B R M w w'):=by
 obtain⟨N,hN⟩:∃N,N=dk l:=⟨_,rfl⟩
 rw[<-hN];have HN:=Hh hN;have a:=Hh hw;have H0:=Hh h;clear hN hw h;go_enter Tryz.func95,Tryz.ntmps95
 go_wp2_with fail;refine(dK q 2 l _ H0.out.eye).mono ?_;rintro e w1 ⟨s,H⟩;cases hg1:ak 2 l with
 | err x=>
  rw[hg1]at H;obtain rfl:e=bK x:=H;have hN:N= .err x:=by rw[HN.out,dk,hg1];rfl
  subst hN;have V:=Hh s;clear hg1 s;go_wp2;exact⟨rfl,H0.out.err a.out V.out⟩
 | ok k r1=>
  rw[hg1]at H;obtain⟨rfl,he1⟩:=H;have hm1:=az hg1;have HN1:=Hh (show N=if k=1 then fN r1 else if k=2 then eY r1 else .err 25 by rw[HN.out,dk,hg1];rfl);have H1:=Hh (H0.out.but a.out s he1);have hs1:=s.size;clear hg1 s he1;by_cases i:k=1
  ·have y:=Hh (show N=fN r1 by rw[HN1.out,if_pos i]);have t1:((k:Int)==1)=true:=by rw[i];rfl
   clear i;go_wp2_with fail;refine fx (S:=lU rb p) ?_;have Y:Below w1.heap.size w1 w1.drew:=(Below.refl _ _).drew;have H2:=Hh (H1.out.below a.out Y);have Z:lU rb p w1.drew:=⟨H2.out.box a.out⟩
   refine hT 0 11 Z ?_;refine hT 1 12 Z ?_;clear Z;refine bp 2 ?_;go_simp;refine(i4 q r1 _ H2.out.eye).mono ?_;rintro e w3 ⟨J,F⟩;cases hg3:dX r1 with
   | err x=>
    rw[hg3]at F;obtain rfl:e=bK x:=F;have hN:N= .err x:=by rw[y.out,fN,hg3];rfl
    subst hN;have V:=Hh J;clear hg3 J Y;go_wp2;exact⟨rfl,H2.out.err a.out V.out⟩
   | ok v W=>
    rw[hg3]at F;obtain⟨rfl,he3⟩:=F;obtain⟨t,f⟩:=v;have hN:N= .ok (.bal t f) W:=by rw[y.out,fN,hg3];rfl
    subst hN;have z:=Hh (H2.out.but a.out J he3);have P:lU rb p w3:=⟨z.out.box a.out⟩
    refine⟨P,?_⟩;clear hg3 J he3 Y;refine hT 3 14 P ?_;refine hT 4 15 P ?_;clear P;have c2:w3.cell? ⟨p,2,none⟩=some (.int .i64 R.bt):=z.out.c rfl;have c3:w3.cell? ⟨p,3,none⟩=some (.int .i64 R.bf):=z.out.c rfl;have f2:=z.out.f 2;have f3:=z.out.f 3;refine bp 5 ?_;go_simp;obtain⟨X,d⟩:∃X,X=(w3.setCell ⟨p,2,none⟩ (.int .i64 t)).setCell ⟨p,3,none⟩ (.int .i64 ((f:Int)-1)):=⟨_,rfl⟩
    rw[<-d];obtain⟨R3,a0⟩:∃R3:aa,R3={ R with bt:=t,bf:=(f:Int)-1 }:=⟨_,rfl⟩
    have n:=Hh (show Nt w q p ab B X W R3 M 0 0 (.slice none 0 0) by rw[d,a0];have U:=z.out.setp (R':={ R with bt:=t }) (M':=M) a.out 2 (.int .i64 t) (iz R.bt) rfl (by intro c e;cases e) (bg (by omega) rfl rfl rfl rfl rfl);exact U.setp (R':={ R with bt:=t,bf:=(f:Int)-1 }) (M':=M) a.out 3 (.int .i64 ((f:Int)-1)) (iz R.bf) rfl (by intro c e;cases e) (bg (by omega) rfl rfl rfl rfl rfl))
    have hS3:lU rb p X:=⟨n.out.box a.out⟩
    have HR3:=Hh a0;refine⟨hS3,dc ?_⟩;clear d a0 c2 c3 f2 f3 hS3;go_wp2;go_end0;refine⟨n.out.os,n.out.tape,n.out.output,n.out.size,fun k h1 h2 U=>n.out.blk k h1 h2 (fun e=>U (.inl e)) (fun e=>U (.inr (.inl e))) (fun e=>U (.inr (.inr e))),(fun x h9=>by cases h9),(fun v' r' h9=> ?_)⟩;cases h9
    have h8:=n.out.row;rw[HR3.out]at h8;exact⟨rfl,n.out.eye.len,h8,n.out.xa⟩
  ·by_cases j:k=2
   ·have y:=Hh (show N=eY r1 by rw[HN1.out,if_neg i,if_pos j]);have t1:((k:Int)==1)=false:=by rw[j];rfl
    have t2:((k:Int)==2)=true:=by rw[j];rfl
    clear i j;go_wp2_with fail;refine(dK q 1099511627776 r1 _ H1.out.eye).mono ?_;rintro e w2 ⟨r,G⟩;cases hg2:ak 1099511627776 r1 with
    | err x=>
     rw[hg2]at G;obtain rfl:e=bK x:=G;have hN:N= .err x:=by rw[y.out,eY,hg2];rfl
     subst hN;have V:=Hh r;clear hg2 r;go_wp2;exact⟨rfl,H1.out.err a.out V.out⟩
    | ok A W=>
     rw[hg2]at G;obtain⟨rfl,he2⟩:=G;have hmA:=az hg2;have wA:IntKind.i64.wrap (A:Int)=A:=IntWalk.i64_in _ (by omega);have HN3:=Hh (show N=(ak 1099511627776 W).bind fun t W=>(aT 8192 W).bind fun b r3=>if A=0 then .err 5 else .ok (.itm A t b) r3 by rw[y.out,eY,hg2];rfl);have H2:=Hh (H1.out.but a.out r he2);have z:=Hh (H2.out.seta a.out A);obtain⟨ca, -, -,fa, -, -⟩:=H2.out.cells;obtain⟨X,d⟩:∃X,X=w2.setCell ⟨ab,0,none⟩ (.int .i64 A):=⟨_,rfl⟩
     rw[<-d]at z;have HW3:=Hh d;have hs2:=r.size;have hs3:w2.heap.size<=X.heap.size:=by rw[d];simp
     clear hg2 r he2 d;go_wp2_with fail;rw[<-HW3.out];clear ca fa;refine(dK q 1099511627776 W _ z.out.eye).mono ?_;rintro e w4 ⟨o,D⟩;cases hg4:ak 1099511627776 W with
     | err x=>
      rw[hg4]at D;obtain rfl:e=bK x:=D;have hN:N= .err x:=by rw[HN3.out,hg4];rfl
      subst hN;have V:=Hh o;clear hg4 o;go_wp2;exact⟨rfl,z.out.err a.out V.out⟩
     | ok T r4=>
      rw[hg4]at D;obtain⟨rfl,he4⟩:=D;have hmT:=az hg4;have wT:IntKind.i64.wrap (T:Int)=T:=IntWalk.i64_in _ (by omega);have HN4:=Hh (show N=(aT 8192 r4).bind fun b r3=>if A=0 then .err 5 else .ok (.itm A T b) r3 by rw[HN3.out,hg4];rfl);have n:=Hh (z.out.but a.out o he4);have H5:=Hh (n.out.sett a.out T);obtain⟨-,ci, -, -,fi, -⟩:=n.out.cells;obtain⟨W5,O⟩:∃W5,W5=w4.setCell ⟨B,0,none⟩ (.int .i64 T):=⟨_,rfl⟩
      rw[<-O]at H5;have HW5:=Hh O;have hs4:=o.size;have hs5:w4.heap.size<=W5.heap.size:=by rw[O];simp
      clear hg4 o he4 O;go_wp2_with fail;rw[<-HW5.out];clear ci fi;refine(iQ q 8192 r4 _ H5.out.eye (by omega)).mono ?_;rintro e w6 ⟨I,C⟩;cases hg6:aT 8192 r4 with
      | err x=>
       rw[hg6]at C;obtain rfl:e=bK x:=C;have hN:N= .err x:=by rw[HN4.out,hg6];rfl
       subst hN;have V:=Hh I;clear hg6 I;go_wp2;exact⟨rfl,H5.out.err a.out V.out⟩
      | ok b r6=>
       rw[hg6]at C;obtain⟨⟨ba,bc,rfl, -,ho6⟩,he6⟩:=C;have HN6:=Hh (show N=if A=0 then .err 5 else .ok (.itm A T b) r6 by rw[HN4.out,hg6];rfl);have H6:=Hh (H5.out.but a.out I he6);have m:=Hh (H6.out.setv a.out (by intro c e;cases e) (.slice ba b.length bc));have hib:=a.out.hi;obtain⟨-, -,cv, -, -,fv⟩:=H6.out.cells;obtain⟨W7,L⟩:∃W7,W7=w6.setCell ⟨B,1,none⟩ (.slice ba b.length bc):=⟨_,rfl⟩
       rw[<-L]at m;have HO7:=Hh (show W7.ownsRow w.heap.size 5 1 (.slice ba b.length bc) b.length (b.map bv) by have h8:=World.ownsRow.mono ho6 (show w.heap.size<=W5.heap.size by omega);rw[L];exact aE h8 fun g hg=>Below.heap_setCell _ _ _ g (by have:=(own_lt h8 hg).1;show g≠B;omega))
       have HW7:=Hh L;have ca7:=m.out.cells.1;clear hg6 I he6 ho6;by_cases hA:A=0
       ·have hN:N= .err 5:=by rw[HN6.out,if_pos hA]
        subst hN;subst hA;have ca6:=H6.out.cells.1;go_wp2_with fail;rw[<-HW7.out];clear L;refine(dY _ 5 (by decide) _).mono ?_;rintro e w2 ⟨rfl,rfl⟩;go_wp2;exact⟨rfl,m.out.err a.out (fV.refl _ _)⟩
       ·have hN:N= .ok (.itm A T b) r6:=by rw[HN6.out,if_neg hA]
        subst hN;have ca6:=H6.out.cells.1;have t5:((A:Int)==0)=false:=by simp;omega
        go_wp2;rw[<-HW7.out];go_end0;refine⟨m.out.os,m.out.tape,m.out.output,m.out.size,fun k h1 h2 U=>m.out.blk k h1 h2 (fun e=>U (.inl e)) (fun e=>U (.inr (.inl e))) (fun e=>U (.inr (.inr e))),(fun x h9=>by cases h9),(fun v' r' h9=> ?_)⟩;cases h9
        exact⟨rfl,m.out.eye.len,by omega,m.out.row,m.out.xa,ba,bc,m.out.xi,HO7.out⟩
   ·have hN:N= .err 25:=by rw[HN1.out,if_neg i,if_neg j]
    subst hN;have t1:((k:Int)==1)=false:=by simp;omega
    have t2:((k:Int)==2)=false:=by simp;omega
    clear i j;go_wp2_with fail;refine(dY _ 25 (by decide) _).mono ?_;rintro e w2 ⟨rfl,rfl⟩;go_wp2;exact⟨rfl,H1.out.err a.out (fV.refl _ _)⟩
def gH(R:aa):bO lO->Option aa
 | .ok (.bal t f) rest=>if rest= [] then some { R with bt:=t,bf:=(f:Int)-1 } else none
 | .ok (.itm at_ t b) rest=>if rest= [] then R.place at_ (t,b) else none
 | .err _=>none
def aa.readNote(R:aa)(l:List UInt8):Option aa:=gH R (dk l)
theorem pF(R:aa)(v:lO){rest:List UInt8}(h:rest≠ []):gH R (.ok v rest)=none:=by cases v<;>simp only[gH,if_neg h]
theorem ow{l r:List UInt8}{v:lO}(h:eY l= .ok v r):∃A T b,v= .itm A T b/\A<=1099511627776/\T<=1099511627776/\b.length<=8192:=by
 unfold eY at h;cases h1:ak 1099511627776 l with
 | err x=>rw[h1]at h;cases h
 | ok A r1=>
  rw[h1,bO.bind_ok]at h;cases h2:ak 1099511627776 r1 with
  | err x=>rw[h2]at h;cases h
  | ok T r2=>
   rw[h2,bO.bind_ok]at h;cases h3:aT 8192 r2 with
   | err x=>rw[h3]at h;cases h
   | ok b r3=>
    rw[h3,bO.bind_ok]at h;by_cases a:A=0
    ·rw[if_pos a]at h;cases h
    ·rw[if_neg a]at h;cases h
     exact⟨A,T,b,rfl,az h1,az h2,(fD h3).2⟩
theorem pO{l r:List UInt8}{v:lO}(h:dk l= .ok v r):(∃t f,v= .bal t f/\t<=1099511627776/\f<=7)\/∃A T b,v= .itm A T b/\A<=1099511627776/\T<=1099511627776/\b.length<=8192:=by
 unfold dk at h;cases h1:ak 2 l with
 | err x=>rw[h1]at h;cases h
 | ok k r1=>
  rw[h1,bO.bind_ok]at h;by_cases c:k=1
  ·rw[if_pos c]at h;unfold fN at h;cases h2:dX r1 with
   | err x=>rw[h2]at h;cases h
   | ok v2 r2=>
    rw[h2,bO.bind_ok]at h;cases h
    exact .inl ⟨v2.1,v2.2,rfl,(fT h2).1,(fT h2).2⟩
  ·rw[if_neg c]at h;by_cases a:k=2
   ·rw[if_pos a]at h;exact .inr (ow h)
   ·rw[if_neg a]at h;cases h
theorem ao.balled{w d:World}{p:Nat}{R R':aa}{M:ay}(h:ao w p R M)(hsp:dS p w d)(hrow:d.heap[p]? =some (.cells (aP R' M).toArray 84 (0,0)))
 (hs:rJ R')(hl:R'.line=R.line)(hst:R'.state=R.state)(hn:R'.news=R.news)(ho:R'.out=R.out):ao d p R' M:=by
 have t:=h.lt;have i:=hsp.size;obtain⟨s,r,q,o,z,y,x,v⟩:=h.apart;have a:∀ {g n},w.heap[g]? =some n->g<w.heap.size:=fun l=>(Array.getElem?_eq_some_iff.1 l).1
 have hT:=hsp.touch M;refine⟨hs,hrow,by rw[hl];exact h.lnKeep hT (hsp.block _ (a h.ln.row) s) (fun k f=>by obtain⟨cur,c⟩:=au h.ln.own f;exact hsp.block k (a c) (fun e=>r (by rw[<-e];exact f))),by rw[hst];exact h.keeps hT h.st,aE h.nw fun g b=> ?_,fun m j=>h.keeps hT (h.nb m j),by rw[hn];exact h.nq,aE h.ou fun g b=> ?_,by rw[ho];exact h.oq,by rw[ho];exact h.postKeep hT rfl rfl⟩
 ·rw[al]at b;obtain⟨cur,c⟩:=au h.nw b;exact hsp.block g (a c) (fun e=>q (by rw[<-e];exact b))
 ·rw[al]at b;obtain⟨cur,c⟩:=au h.ou b;exact hsp.block g (a c) (fun e=>o (by rw[<-e];exact b))
theorem ka(p:Nat)(R:aa)(M:ay)(l:List UInt8)(a:Option Addr)(c:Nat)(hg:R.line.Good)(w:World)(hl:aM w w.heap.size a l.length c l)(h:ao w p R M):
  Calls Tryz.prog 57 #[.pointer (some ⟨p,0,none⟩), .slice a l.length c] w (yV p M w (R.readNote l)):=by
 obtain⟨N,hN⟩:∃N,N=dk l:=⟨_,rfl⟩
 have i:=tZ l;rw[<-hN]at i;obtain⟨O,hO⟩:∃O,O=R.readNote l:=⟨_,rfl⟩
 have Y:=Hh (show O=gH R N by rw[hO,hN];rfl);rw[<-hO];have HN:=Hh hN;obtain⟨D,X⟩:∃D,D=((w.alloc (.cells #[.pointer (some ⟨p,0,none⟩)] 25)).alloc (.cells #[.int .i64 0] 3)).alloc (.cells #[.int .i64 0, .slice none 0 0] 40):=⟨_,rfl⟩
 obtain⟨L,s⟩:∃L,L=w.alloc (.cells #[.pointer (some ⟨p,0,none⟩)] 25):=⟨_,rfl⟩
 obtain⟨J,o⟩:∃J,J=L.alloc (.cells #[.int .i64 0] 3):=⟨_,rfl⟩
 have j:D=J.alloc (.cells #[.int .i64 0, .slice none 0 0] 40):=by rw[X,o,s]
 have za:L.heap.size=w.heap.size+1:=by rw[s];simp
 have zb:J.heap.size=w.heap.size+2:=by rw[o];simp[za]
 have hs1:D.heap.size=w.heap.size+3:=by rw[j];simp[zb]
 have ba:Below w.heap.size w L:=by rw[s];exact(Below.refl _ _).alloc (Nat.le_refl _) _
 have bb:Below L.heap.size L J:=by rw[o];exact(Below.refl _ _).alloc (Nat.le_refl _) _
 have bc:Below J.heap.size J D:=by rw[j];exact(Below.refl _ _).alloc (Nat.le_refl _) _
 have m:Below w.heap.size w D:=ba.trans ((bb.mono (by omega)).trans (bc.mono (by omega)));have hr1:D.heap[w.heap.size]? =some (.cells #[.pointer (some ⟨p,0,none⟩)] 25 (0,0)):=(bc.block _ (by omega)).trans ((bb.block _ (by omega)).trans (by rw[s];exact heap_alloc_new w _))
 have W:D.heap[w.heap.size+1]? =some (.cells #[.int .i64 0] 3 (0,0)):=(bc.block _ (by omega)).trans (by rw[<-za,o];exact heap_alloc_new L _)
 have hi1:D.heap[w.heap.size+2]? =some (.cells #[.int .i64 0, .slice none 0 0] 40 (0,0)):=by rw[<-zb,j];exact heap_alloc_new J _
 have hpl:=h.lt;have HG:=Hh hg;have HH:=Hh h;have HR1:=Hh (h.below m);have H:=Hh m;have HRB:=Hh hr1;have HBB:=Hh W;have HIB:=Hh hi1;have HL:=Hh ((hl.below m (Nat.le_refl _)).mono m.size);have HW1:=Hh X;have HSN:=Hh i;clear hN i hO X j s o za zb ba bb bc m hr1 W hi1 h hl hg;go_enter Tryz.func57,Tryz.ntmps57
 go_wp2_with fail;rw[<-HW1.out];refine(kz N HSN.out l a l.length c 95 (iR Tryz.func95 (by kernel_rfl) rfl) #[] #[.pointer (some ⟨w.heap.size,0,none⟩), .pointer (some ⟨w.heap.size+1,0,none⟩), .pointer (some ⟨w.heap.size+2,0,none⟩)] (fun k=>k=p\/k=w.heap.size+1\/k=w.heap.size+2) D (fun k hk=>by omega) HL.out
  (fun P w' v=>wH p (w.heap.size+1) (w.heap.size+2) R M P w' v) ?_).mono ?_
 ·intro q P hb hq he;have hs:=hb.size;show Calls _ 95 #[.pointer (some ⟨q,0,none⟩), .pointer (some ⟨w.heap.size,0,none⟩), .pointer (some ⟨w.heap.size+1,0,none⟩), .pointer (some ⟨w.heap.size+2,0,none⟩)] P _;rw[HN.out];exact oh q p w.heap.size (w.heap.size+1) (w.heap.size+2) R M l P ⟨he.1,by omega,by omega,by omega,by omega,by omega,by omega,by omega,by omega,by omega,by omega,by omega,by omega,by omega,by omega,cell_of_row P w.heap.size 0 _ _ _ ((hb.block _ (by omega)).trans HRB.out)⟩
   ⟨rfl,rfl,rfl,Nat.le_refl _,fun _ _ _ _ _ _=>rfl,he,(hb.block _ (by omega)).trans HR1.out.row,(hb.block _ (by omega)).trans HBB.out,(hb.block _ (by omega)).trans HIB.out⟩
 ·rintro e C ⟨rfl,⟨ho,ht,hu,hz,V⟩,hok⟩;have y:=Hh (show dS p w C from⟨ho.trans H.out.os,ht.trans H.out.tape,hu.trans H.out.output,by omega,fun k hk G=>(V k (by omega) (fun h9=>by omega)).trans (H.out.block k hk)⟩);have HOK:=Hh hok;have HRB2:=Hh ((V w.heap.size (by omega) (fun h9=>by omega)).trans HRB.out);clear ho ht hu V hok;by_cases d:∃v,N= .ok v []
  ·obtain⟨v,I⟩:=d;obtain⟨P,w',rb,k1,k2,k3,k4,k6,F⟩:=HOK.out v I;have hk4:=k4.size;have hk5:=F.size;have S:=pO (l:=l) (r:= []) (v:=v) (by rw[<-HN.out];exact I);have t1:(N.code !=0)=false:=by rw[I];rfl
   have t0:(N.code==0)=true:=by rw[I];rfl
   rcases S with⟨t,f,rfl,ht1,hf1⟩ | ⟨A,T,b,rfl,hA1,hT1,W⟩
   ·obtain⟨r1,r2⟩:=k6;have z:=Hh ((F.block p (by omega) (by omega)).trans r1);have B:=(F.block (w.heap.size+1) (by omega) (by omega)).trans r2;have ca:=cell_of_row C (w.heap.size+1) 0 _ _ _ B;have hOV:O=some { R with bt:=t,bf:=(f:Int)-1 }:=by rw[Y.out,I];rfl
    subst hOV;clear I k4 F r1 r2 B;go_wp2;go_ret;exact⟨M,y.out.touch M,rfl,HH.out.balled y.out z.out (HH.out.sv.cp rfl rfl rfl) rfl rfl rfl rfl⟩
   ·obtain⟨r0,r1,r2,ia,ic,r3,r4⟩:=k6;have z:=Hh ((F.block p (by omega) (by omega)).trans r1);have B:=(F.block (w.heap.size+1) (by omega) (by omega)).trans r2;have Z:=(F.block (w.heap.size+2) (by omega) (by omega)).trans r3;have ca:=cell_of_row C (w.heap.size+1) 0 _ _ _ B;have c0:=cell_of_row C (w.heap.size+2) 0 _ _ _ Z;have c1:=cell_of_row C (w.heap.size+2) 1 _ _ _ Z;have cr:C.cell? ⟨w.heap.size,0,none⟩=some (.pointer (some ⟨p,0,none⟩)):=cell_of_row C _ 0 _ _ _ HRB2.out;have hob:C.ownsRow P.heap.size 5 1 (.slice ia b.length ic) b.length (b.map bv):=aE r4 fun g hg=>F.block g (own_lt r4 hg).2 (by have:=(own_lt r4 hg).1;omega)
    have HBS:=Hh (show aM C C.heap.size ia b.length ic b from(OwnBs.of_own (t:=0) (n:=b.length) hob (by omega)).1);have HRF:=Hh (HH.out.balled y.out z.out HH.out.sv rfl rfl rfl rfl);have HOV:=Hh (show O=R.place A (T,b) by rw[Y.out,I];rfl);have tA:((A:Int)==0)=false:=by simp;omega
    clear I k4 F r1 r2 r3 r4 B Z hob;go_wp2_with fail;refine(uf p R M A (by omega) (by omega) T ia ic b HG.out _ HRF.out HBS.out).mono ?_;rintro e w3 ⟨M',hT3,U⟩;have HT3:=Hh ((y.out.touch M).trans hT3);rw[<-HOV.out]at U;clear hT3 ca c0 c1 cr;cases O with
    | none=>obtain rfl:e= .returned (.bool false):=U;go_wp2;go_ret;exact⟨M',HT3.out,rfl⟩
    | some R'=>obtain⟨rfl,hr9⟩:=U;have HR9:=Hh hr9;clear hr9;go_wp2;go_ret;exact⟨M',HT3.out,rfl,HR9.out⟩
  ·have G:N.code≠0:=by
    cases hR:N with
    | err x=>exact HSN.out x hR
    | ok v rest=>
     simp only[bO.code];split
     ·rename_i h9;exact absurd ⟨v,by rw[hR,h9]⟩ d
     ·decide
   have t1:(N.code !=0)=true:=by simpa using G
   have t0:(N.code==0)=false:=by simpa using G
   have hON:O=none:=by
    rw[Y.out];cases hR:N with
    | err x=>rfl
    | ok v rest=>exact pF R v (fun h9=>d ⟨v,by rw[hR,h9]⟩)
   subst hON;clear d G;go_wp2;go_ret;exact⟨M,y.out.touch M,rfl⟩
def aa.loads:aa->List (List UInt8)->Option aa
 | R,[]=>some R
 | R,b::l=>(R.readNote b).bind fun a=>a.loads l
def aa.base(R:aa):aa:={ R with commit:=R.line.base,applied:=R.line.base }
def ij(R:aa)(hd:List UInt8):Option aa:=if hd= [] then some R else R.readHead hd
def ly(me n:Int)(hd:List UInt8)(l:List (List UInt8)):Option aa:=(ij (aa.new me n) hd).bind fun R=>(R.loads l).map aa.base
theorem o6{R R':aa}{l:List UInt8}(h:R.readHead l=some R'):R'.line.Good:=by
 unfold aa.readHead at h;cases hr:dR l with
 | err x=>rw[hr]at h;cases h
 | ok v rest=>
  rw[hr]at h;simp only[ks]at h;by_cases b:rest= []
  ·rw[if_pos b]at h;obtain⟨L,a⟩:∃L,L=jw (cx v.2.1):=⟨_,rfl⟩
   rw[<-a]at h;obtain⟨E,o⟩:=L;cases o with
   | none=>cases h
   | some x=>simp only[Option.map_some]at h;injection h with h;subst h;exact(oN a.symm).2.1
  ·rw[if_neg b]at h;cases h
theorem s7{R R':aa}{at_ :Int}{it:ar}(a:R.line.Good)(h:R.place at_ it=some R'):R'.line.Good:=by
 unfold aa.place at h;split at h
 ·cases h
 ·split at h
  ·injection h with h;subst h;exact ae.Good.add (a.pre _) it
  ·cases h
theorem jf{R R':aa}{l:List UInt8}(a:R.line.Good)(h:R.readNote l=some R'):R'.line.Good:=by
 unfold aa.readNote at h;cases hr:dk l with
 | err x=>rw[hr]at h;cases h
 | ok v rest=>
  rw[hr]at h;cases v with
  | bal t f=>
   simp only[gH]at h;split at h
   ·injection h with h;subst h;exact a
   ·cases h
  | itm A T b=>
   simp only[gH]at h;split at h
   ·exact s7 a h
   ·cases h
structure yH (w:World) (p:Nat) (L:List (List UInt8)) (O:Option aa) (j:Nat) (S:aa) (N:ay) (wr:World):Prop where
 rf:ao wr p S N
 bel:Below w.heap.size w wr
 own:∀k,N.own p k->w.heap.size<=k
 good:S.line.Good
 q:O=(S.loads (L.drop j)).map aa.base
def yW(O:Option aa)(w:World)(e:Ending)(w':World):Prop:=Below w.heap.size w w'/\match O with
 | none=>e= .returned (.tuple #[.pointer none, .bool false])
 | some R=>∃p M,e= .returned (.tuple #[.pointer (some ⟨p,0,none⟩), .bool true])/\ao w' p R M/\∀k,M.own p k->w.heap.size<=k
theorem vd(me n:Int)(h1:1<=n)(h7:n<=7)(hm:0<=me)(hn:me<n)(hd:List UInt8)(a:Option Addr)(c:Nat)(ns:List aV)(na:Option Addr)(nc:Nat)(hnl:ns.length<=1000000000)(w:World)
 (hh:aM w w.heap.size a hd.length c hd)(hs:SlAt w w.heap.size 1 na ns.length nc (ns.map aV.cell))(hb:∀m∈ns,aM w w.heap.size m.a m.b.length m.c m.b):
  Calls Tryz.prog 18 #[.int .i64 me, .int .i64 n, .slice a hd.length c, .slice na ns.length nc] w (yW (ly me n hd (ns.map aV.b)) w):=by
 obtain⟨O,hO⟩:∃O,ly me n hd (ns.map aV.b)=O:=⟨_,rfl⟩
 rw[hO];have HO:=Hh hO;have HH:=Hh hh;have HS:=Hh hs;have HB:=Hh hb;have hdl:=hh.hbig;clear hO hh hs hb;go_enter Tryz.func18,Tryz.ntmps18
 go_wp2_with fail;refine(i6 me n h1 h7 hm hn _).mono ?_;rintro e w1 ⟨p,rfl,M,r⟩;have I:=Hh r;have A:=r.2.1.size;clear r;by_cases a6:hd.length=0
 ·have J:=Hh (show ij (aa.new me n) hd=some (aa.new me n) by unfold ij;rw[if_pos (List.eq_nil_of_length_eq_zero a6)]);have a1:=Hh (show yH w p (ns.map aV.b) O 0 (aa.new me n) M w1 from⟨I.out.1,I.out.2.1,I.out.2.2,nk (b:=0) (t:=0) (by rfl),by rw[<-HO.out,ly,J.out];rfl⟩);have t1:decide ((0:Int)<(hd.length:Int))=false:=decide_eq_false (by omega);go_wp2_with fail;clear t1;go_loopw [31] (fun L wr=>∃(j:Nat) (S:aa) (N:ay),L= .int .i64 j/\j<=ns.length/\yH w p (ns.map aV.b) O j S N wr) (fun L _=>ns.length-(intOf L).toNat)
  case atStart=>exact⟨0,_,_,rfl,by omega,a1.out⟩
  case round=>
   obtain⟨j,S,N,rfl,hj,x⟩:=hrel;have g:=Hh x;have d:=x.bel.size;clear x;by_cases v:j<ns.length
   ·have tj:decide ((j:Int)<(ns.length:Int))=true:=by simpa using v
    have hk0:(0:Int)<=(j:Int):=by omega
    have hk1:(j:Int)<(ns.length:Int):=by omega
    obtain⟨m,l⟩:∃m,ns[j]? =some m:=⟨_,List.getElem?_eq_getElem v⟩
    have D:=List.mem_of_getElem? l;obtain⟨b9,o,rfl,V,hc⟩:=HS.out.hat (by simp;omega);have e1:(ns.map aV.cell)[j]? =some (.slice m.a m.b.length m.c):=by simp[l,aV.cell]
    have k1:wr.cell? ⟨b9,o+j,none⟩=some (.slice m.a m.b.length m.c):=(g.out.bel.cell (p:=⟨b9,o+j,none⟩) V).trans ((hc _ (by simpa using v)).trans e1);have a2:=Hh (show aM wr wr.heap.size m.a m.b.length m.c m.b from((HB.out m D).below g.out.bel (Nat.le_refl _)).mono d);have i:(ns.map aV.b).drop j=m.b::(ns.map aV.b).drop (j+1):=by
     have H:(ns.map aV.b)[j]? =some m.b:=by simp[l]
     obtain⟨T,U⟩:=List.getElem?_eq_some_iff.1 H;rw[List.drop_eq_getElem_cons T,U]
    have HQ:=Hh (show O=(((S.readNote m.b).bind fun R'=>R'.loads ((ns.map aV.b).drop (j+1)))).map aa.base by rw[g.out.q,i];rfl);clear hc e1 l D i;go_wp2_with fail;refine(ka p S N m.b m.a m.c g.out.good _ a2.out g.out.rf).mono ?_;rintro e w9 ⟨N',y,s⟩;have z:=Hh (g.out.bel.trans (y.below g.out.own d));have Z:=Hh (y.inn g.out.own d);obtain⟨P,F⟩:∃P,S.readNote m.b=P:=⟨_,rfl⟩
    rw[F]at s;have k:=Hh F;clear y F k1;cases P with
    | none=>
     obtain rfl:e= .returned (.bool false):=s;have G:O=none:=by rw[HQ.out,k.out];rfl
     subst G;go_wp2;go_ret2;exact⟨z.out,rfl⟩
    | some S'=>
     obtain⟨rfl,C⟩:=s;have a0:=Hh (show yH w p (ns.map aV.b) O (j+1) S' N' w9 from⟨C,z.out,Z.out,jf g.out.good k.out,by rw[HQ.out,k.out];rfl⟩);clear C;go_wp2;go_roundw
     case rel=>exact⟨j+1,S',N',by go_num,by omega,a0.out⟩
     case measure=>simp[intOf];omega
   ·have tj:decide ((j:Int)<(ns.length:Int))=false:=by simp;omega
    obtain rfl:j=ns.length:=by omega
    have X:O=some S.base:=by rw[g.out.q,List.drop_of_length_le (by simp)];rfl
    subst X;have c4:wr.cell? ⟨p,4,none⟩=some (.pointer (some ⟨N.lb,0,none⟩)):=g.out.rf.c rfl;go_wp2_with fail;refine(fM 0 N.lb S.line N.la N.lc N.ms _ g.out.rf.ln).mono ?_;rintro e w2 ⟨rfl,B,rfl⟩;have h:=g.out.rf.drawn (m:=B) rfl;have Y:=h.setCommit S.line.base;have H:=Y.1.setApplied S.line.base;have HF:=Hh H.1;have a3:=Hh (show Below w.heap.size w (((wr.drewN B).setCell ⟨p,8,none⟩ (iz S.line.base)).setCell ⟨p,9,none⟩ (iz S.line.base)) from
     g.out.bel.trans (((below_drewN wr B).mono d).trans ((Y.2.trans H.2).below g.out.own (by simpa using d))))
    have c8:(wr.drewN B).cell? ⟨p,8,none⟩=some (.int .i64 S.commit):=h.c rfl;have c9:(wr.drewN B).cell? ⟨p,9,none⟩=some (.int .i64 S.applied):=h.c rfl;have f8:=h.f 8;have f9:=h.f 9;clear Y H h c4;go_wp2;go_ret2;exact⟨a3.out,p,N,rfl,HF.out,g.out.own⟩
 ·have t1:decide ((0:Int)<(hd.length:Int))=true:=decide_eq_true (by omega);have J:=Hh (show ij (aa.new me n) hd=(aa.new me n).readHead hd by unfold ij;rw[if_neg (fun e=>a6 (by rw[e];rfl))]);have HBH:=Hh (show aM w1 w1.heap.size a hd.length c hd from(HH.out.below I.out.2.1 (Nat.le_refl _)).mono A);go_wp2_with fail;refine(px p (aa.new me n) M hd a c _ HBH.out I.out.1).mono ?_;rintro e w2 R;obtain⟨P,F⟩:∃P,(aa.new me n).readHead hd=P:=⟨_,rfl⟩
  rw[F]at R;have k:=Hh F;clear F t1;cases P with
  | none=>
   obtain⟨rfl,a4⟩:=R;have G:O=none:=by rw[<-HO.out,ly,J.out,k.out];rfl
   subst G;have z:=Hh (I.out.2.1.trans ((a4.touch M).below I.out.2.2 A));clear a4;go_wp2;go_ret2;exact⟨z.out,rfl⟩
  | some S0=>
   obtain⟨rfl,M2,a5,W⟩:=R;have a1:=Hh (show yH w p (ns.map aV.b) O 0 S0 M2 w2 from⟨a5,I.out.2.1.trans (W.below I.out.2.2 A),W.inn I.out.2.2 A,o6 k.out,by rw[<-HO.out,ly,J.out,k.out];rfl⟩);clear a5 W;go_wp2_with fail;go_loopw [31] (fun L wr=>∃(j:Nat) (S:aa) (N:ay),L= .int .i64 j/\j<=ns.length/\yH w p (ns.map aV.b) O j S N wr) (fun L _=>ns.length-(intOf L).toNat)
   case atStart=>exact⟨0,_,_,rfl,by omega,a1.out⟩
   case round=>
    obtain⟨j,S,N,rfl,hj,x⟩:=hrel;have g:=Hh x;have d:=x.bel.size;clear x;by_cases v:j<ns.length
    ·have tj:decide ((j:Int)<(ns.length:Int))=true:=by simpa using v
     have hk0:(0:Int)<=(j:Int):=by omega
     have hk1:(j:Int)<(ns.length:Int):=by omega
     obtain⟨m,l⟩:∃m,ns[j]? =some m:=⟨_,List.getElem?_eq_getElem v⟩
     have D:=List.mem_of_getElem? l;obtain⟨b9,o,rfl,V,hc⟩:=HS.out.hat (by simp;omega);have e1:(ns.map aV.cell)[j]? =some (.slice m.a m.b.length m.c):=by simp[l,aV.cell]
     have k1:wr.cell? ⟨b9,o+j,none⟩=some (.slice m.a m.b.length m.c):=(g.out.bel.cell (p:=⟨b9,o+j,none⟩) V).trans ((hc _ (by simpa using v)).trans e1);have a2:=Hh (show aM wr wr.heap.size m.a m.b.length m.c m.b from((HB.out m D).below g.out.bel (Nat.le_refl _)).mono d);have i:(ns.map aV.b).drop j=m.b::(ns.map aV.b).drop (j+1):=by
      have H:(ns.map aV.b)[j]? =some m.b:=by simp[l]
      obtain⟨T,U⟩:=List.getElem?_eq_some_iff.1 H;rw[List.drop_eq_getElem_cons T,U]
     have HQ:=Hh (show O=(((S.readNote m.b).bind fun R'=>R'.loads ((ns.map aV.b).drop (j+1)))).map aa.base by rw[g.out.q,i];rfl);clear hc e1 l D i;go_wp2_with fail;refine(ka p S N m.b m.a m.c g.out.good _ a2.out g.out.rf).mono ?_;rintro e w9 ⟨N',y,s⟩;have z:=Hh (g.out.bel.trans (y.below g.out.own d));have Z:=Hh (y.inn g.out.own d);obtain⟨P,F⟩:∃P,S.readNote m.b=P:=⟨_,rfl⟩
     rw[F]at s;have k:=Hh F;clear y F k1;cases P with
     | none=>
      obtain rfl:e= .returned (.bool false):=s;have G:O=none:=by rw[HQ.out,k.out];rfl
      subst G;go_wp2;go_ret2;exact⟨z.out,rfl⟩
     | some S'=>
      obtain⟨rfl,C⟩:=s;have a0:=Hh (show yH w p (ns.map aV.b) O (j+1) S' N' w9 from⟨C,z.out,Z.out,jf g.out.good k.out,by rw[HQ.out,k.out];rfl⟩);clear C;go_wp2;go_roundw
      case rel=>exact⟨j+1,S',N',by go_num,by omega,a0.out⟩
      case measure=>simp[intOf];omega
    ·have tj:decide ((j:Int)<(ns.length:Int))=false:=by simp;omega
     obtain rfl:j=ns.length:=by omega
     have X:O=some S.base:=by rw[g.out.q,List.drop_of_length_le (by simp)];rfl
     subst X;have c4:wr.cell? ⟨p,4,none⟩=some (.pointer (some ⟨N.lb,0,none⟩)):=g.out.rf.c rfl;go_wp2_with fail;refine(fM 0 N.lb S.line N.la N.lc N.ms _ g.out.rf.ln).mono ?_;rintro e w2 ⟨rfl,B,rfl⟩;have h:=g.out.rf.drawn (m:=B) rfl;have Y:=h.setCommit S.line.base;have H:=Y.1.setApplied S.line.base;have HF:=Hh H.1;have a3:=Hh (show Below w.heap.size w (((wr.drewN B).setCell ⟨p,8,none⟩ (iz S.line.base)).setCell ⟨p,9,none⟩ (iz S.line.base)) from
      g.out.bel.trans (((below_drewN wr B).mono d).trans ((Y.2.trans H.2).below g.out.own (by simpa using d))))
     have c8:(wr.drewN B).cell? ⟨p,8,none⟩=some (.int .i64 S.commit):=h.c rfl;have c9:(wr.drewN B).cell? ⟨p,9,none⟩=some (.int .i64 S.applied):=h.c rfl;have f8:=h.f 8;have f9:=h.f 9;clear Y H h c4;go_wp2;go_ret2;exact⟨a3.out,p,N,rfl,HF.out,g.out.own⟩
structure aa.Fit (R:aa) (B:Nat):Prop where
 b0:0<=R.bt
 b1:R.bt<=1099511627776
 f0: -1<=R.bf
 f1:R.bf<=6
 g:R.line.Good
 s:R.state.length<=65536
 i:(aw R.line.l).length<=B
theorem aa.Fit.put{R:aa}{B:Nat}(h:R.Fit B):R.line.put.length<=B+27:=by have a:=h.g;have:=a.b0;have:=a.b1;have:=a.t0;have:=a.t1;have:=a.n1;have:=h.i;have d:=ck (show R.line.base.toNat<18446744073709551616 by omega);have c:=ck (show R.line.term.toNat<18446744073709551616 by omega);have b:=ck (show R.line.l.length<18446744073709551616 by omega);simp only[ae.put,List.length_append];omega
theorem xn(R:aa):R.head≠ []:=by intro e;have:=congrArg List.length e;simp[aa.head,aC]at this
theorem sA{R:aa}{B:Nat}(h:R.Fit B)(hB:B<=1000000000)(S:aa):S.readHead R.head=some { S with bt:=R.bt,bf:=R.bf,state:=R.state,line:=R.line }:=by
 have c:=h.put;have:=h.b0;have:=h.b1;have:=h.f0;have:=h.f1;have:=h.s;have b:dR R.head= .ok ((R.bt.toNat,(R.bf+1).toNat),R.line.put,R.state) []:=by have a:=eX 65536 R.state [] (by omega) h.s;rw[List.append_nil]at a;rw[dR,dX,aa.head,bo _ _ _ (by omega) (by omega),bO.bind_ok,bo _ _ _ (by omega) (by omega),bO.bind_ok,bO.bind_ok,eX _ _ _ (by omega) (by omega),bO.bind_ok,a,bO.bind_ok]
 rw[aa.readHead,b];simp only[ks,if_true,vl h.g,Option.map_some]
 congr 2
 ·omega
 ·omega
theorem sD(a n:Nat)(h64:n<18446744073709551616)(hm:n<=a):ak a (aC n)= .ok n []:=by
 have h:=bo a n [] h64 hm
 rwa [List.append_nil]at h
theorem rh(a:Nat)(t:List UInt8)(h64:t.length<18446744073709551616)(hm:t.length<=a):aT a (bN t)= .ok t []:=by
 have h:=eX a t [] h64 hm
 rwa [List.append_nil]at h
theorem nF{bt bf:Int}(h0:0<=bt)(h1:bt<=1099511627776)(f0: -1<=bf)(f1:bf<=6):dk (bT bt bf)= .ok (.bal bt.toNat (bf+1).toNat) []:=by rw[dk,bT,bo _ _ _ (by omega) (by omega),bO.bind_ok,if_pos rfl,fN,dX,bo _ _ _ (by omega) (by omega),bO.bind_ok,sD _ _ (by omega) (by omega)];rfl
theorem pP{at_ :Int}{it:ar}(h0:1<=at_)(h1:at_<=1099511627776)(hr:bj it=true):dk (dy at_ it)= .ok (.itm at_.toNat it.1.toNat it.2) []:=by obtain⟨c,b,a⟩:=(br _).1 hr;rw[dk,dy,bo _ _ _ (by omega) (by omega),bO.bind_ok,if_neg (by omega),if_pos rfl,eY,bo _ _ _ (by omega) (by omega),bO.bind_ok,bo _ _ _ (by omega) (by omega),bO.bind_ok,rh _ _ (by omega) (by omega),bO.bind_ok,if_neg (by omega)]
def aa.bare(R:aa):aa:={ aa.new R.me R.n with bt:=R.bt,bf:=R.bf,line:=R.line,state:=R.state }
theorem ki(S:aa)(l m:List (List UInt8)):S.loads (l++m)=(S.loads l).bind fun T=>T.loads m:=by
 induction l generalizing S with
 | nil=>rfl
 | cons b l ih=>
  show(S.readNote b).bind (fun T=>T.loads (l++m))=((S.readNote b).bind fun T=>T.loads l).bind fun T=>T.loads m
  cases S.readNote b with
  | none=>rfl
  | some T=>exact ih T
def bH(R R':aa):Prop:=∃a,R'.news=R.news++a/\R.bare.loads a=some R'.bare/\R'.jumped=R.jumped
theorem bH.refl(R:aa):bH R R:=⟨[],by simp,rfl,rfl⟩
theorem bH.same{R R':aa}(h:R'.news=R.news)(hb:R'.bare=R.bare)(hj:R'.jumped=R.jumped:=by rfl):bH R R':=⟨[],by simp[h],by rw[hb];rfl,hj⟩
theorem bH.trans{R S T:aa}(h:bH R S)(k:bH S T):bH R T:=by obtain⟨a,i,g,f⟩:=h;obtain⟨b,e,d,c⟩:=k;exact⟨a++b,by rw[e,i,List.append_assoc],by rw[ki,g];exact d,c.trans f⟩
theorem gA{R:aa}{t f:Int}(h0:0<=t)(h1:t<=1099511627776)(f0: -1<=f)(f1:f<=6):bH R ({ R with bt:=t,bf:=f }:aa).noteBallot:=by refine⟨[bT t f],rfl,?_,rfl⟩;show(R.bare.readNote (bT t f)).bind (fun T=>some T)=_;rw[aa.readNote,nF h0 h1 f0 f1];show some { R.bare with bt:=(t.toNat:Int),bf:=((f+1).toNat:Int)-1 }=_;rw[show((t.toNat:Nat):Int)=t by omega,show(((f+1).toNat:Nat):Int)-1=f by omega];rfl
theorem yU{x:ae}{it:ar}(a:bj it=true)(hf:cL x ((x.l.length:Int)+1)=true):x.add it=({ x with l:=x.l++ [it] },x.last+1):=by unfold ae.add;rw[if_pos ⟨a,hf⟩]
theorem vh{S:aa}{at_ :Int}{it:ar}(b:bj it=true)(hg:S.line.Good)(h0:S.line.base<at_)(h1:at_<=S.line.last+1)(h2:at_<=1099511627776)(h3:at_-S.line.base<=4096):
  S.place at_ it=some { S with line:=⟨S.line.base,S.line.term,S.line.l.take (at_-S.line.base-1).toNat++ [it]⟩ }:=by
 have e:=hg.b0;have d:S.line.last=S.line.base+(S.line.l.length:Int):=rfl;have a:(S.line.l.take (at_-S.line.base-1).toNat).length=(at_-S.line.base-1).toNat:=by rw[List.length_take];omega
 have c:(S.line.upTo at_).add it=(⟨S.line.base,S.line.term,S.line.l.take (at_-S.line.base-1).toNat++ [it]⟩,at_):=by
  rw[yU b]
  ·show(_,S.line.base+((S.line.l.take (at_-S.line.base-1).toNat).length:Int)+1)=_;rw[a];exact Prod.ext rfl (by show S.line.base+((at_-S.line.base-1).toNat:Int)+1=at_;omega)
  ·show cL _ (((S.line.l.take (at_-S.line.base-1).toNat).length:Int)+1)=true;rw[a];simp[cL,ae.upTo];omega
 unfold aa.place;rw[if_neg (by omega),c,if_pos rfl]
theorem lw:∀(its:List ar) (S:aa) (at_ :Int),S.line.Good->(∀it∈its,bj it=true)->S.line.base<at_->at_<=S.line.last+1->at_+its.length<=1099511627777->at_-S.line.base+its.length<=4097->its≠ []->
  S.loads (cq at_ its)=some { S with line:=⟨S.line.base,S.line.term,S.line.l.take (at_-S.line.base-1).toNat++its⟩ }
 | [],S,at_,_,_,_,_,_,_,b=>absurd rfl b
 | it::r,S,at_,hg,hr,h0,h1,h2,h3,_=>by
  have k:=hg.b0;have c:=hr it (by simp);have j:S.line.last=S.line.base+(S.line.l.length:Int):=rfl;simp only[List.length_cons]at h2 h3;show(S.readNote (dy at_ it)).bind (fun T=>T.loads (cq (at_+1) r))=_;obtain⟨o,n,m⟩:=(br _).1 c;rw[aa.readNote,pP (by omega) (by omega) c];have i:=vh (S:=S) (at_:=at_) c hg h0 h1 (by omega) (by omega);have e:gH S (.ok (.itm at_.toNat it.1.toNat it.2) [])=S.place at_ it:=by show S.place ((at_.toNat:Nat):Int) (((it.1.toNat:Nat):Int),it.2)=_;rw[show((at_.toNat:Nat):Int)=at_ by omega,show((it.1.toNat:Nat):Int)=it.1 by omega]
  rw[e,i];show aa.loads _ (cq (at_+1) r)=_;have a:(S.line.l.take (at_-S.line.base-1).toNat).length=(at_-S.line.base-1).toNat:=by rw[List.length_take];omega
  by_cases b:r= []
  ·subst b;rfl
  ·obtain⟨T,hT⟩:∃T:aa,T={ S with line:=⟨S.line.base,S.line.term,S.line.l.take (at_-S.line.base-1).toNat++ [it]⟩ }:=⟨_,rfl⟩
   have h:T.line.base=S.line.base:=by rw[hT]
   have g:T.line.l=S.line.l.take (at_-S.line.base-1).toNat++ [it]:=by rw[hT]
   have p:T.line.last=at_:=by show T.line.base+(T.line.l.length:Int)=at_;rw[h,g];simp[a];omega
   have f:T.line.Good:=by
    rw[hT];exact⟨hg.b0,hg.b1,hg.t0,hg.t1,by simp[a];omega,by simp[a];omega,fun y d=>by
     simp only[List.mem_append,List.mem_singleton]at d;rcases d with d | rfl
     ·exact hg.its y (List.mem_of_mem_take d)
     ·exact c⟩
   rw[<-hT,lw r T (at_+1) f (fun y d=>hr y (List.mem_cons_of_mem _ d)) (by omega) (by omega) (by omega) (by omega) b];rw[h,g,show(at_+1-S.line.base-1).toNat=(at_-S.line.base-1).toNat+1 by omega];rw[List.take_of_length_le (by rw[List.length_append,a];simp)];subst hT;simp[List.append_assoc]
theorem lg{R:aa}(j:R.line.Good){at_ :Int}{its:List ar}(d:its≠ [])(h0:R.line.base<at_)(h1:at_<=R.line.last+1)(hg':({ R.line with l:=R.line.l.take (at_-R.line.base-1).toNat++its }:ae).Good):
  bH R (({ R with line:={ R.line with l:=R.line.l.take (at_-R.line.base-1).toNat++its } }:aa).noteItems at_):=by
 have m:=j.b0;have k:R.line.last=R.line.base+(R.line.l.length:Int):=rfl;have b:(R.line.l.take (at_-R.line.base-1).toNat).length=(at_-R.line.base-1).toNat:=by rw[List.length_take];omega
 have f:=hg'.n1;have e:=hg'.n2;simp only[List.length_append,b]at f e;have i:0<its.length:=by cases its with
  | nil=>exact absurd rfl d
  | cons a r=>simp
 have h:({ R.line with l:=R.line.l.take (at_-R.line.base-1).toNat++its }:ae).from_ at_ 4096=its:=by
  unfold ae.from_;have c:({ R.line with l:=R.line.l.take (at_-R.line.base-1).toNat++its }:ae).last=at_-1+its.length:=by show R.line.base+((R.line.l.take (at_-R.line.base-1).toNat++its).length:Int)=_;simp only[List.length_append,b];omega
  rw[if_neg (by rw[c];show ¬(at_<=R.line.base\/_\/_);omega)];show((R.line.l.take (at_-R.line.base-1).toNat++its).drop (at_-R.line.base-1).toNat).take (4096:Int).toNat=its;rw[List.drop_append_of_le_length (by omega),List.drop_of_length_le (by omega),List.nil_append,List.take_of_length_le (by omega)]
 refine⟨cq at_ its,?_,?_,rfl⟩
 ·show R.news++cq at_ (({ R.line with l:=R.line.l.take (at_-R.line.base-1).toNat++its }:ae).from_ at_ 4096)=_;rw[h]
 ·rw[lw its R.bare at_ j (fun it g=>hg'.its it (List.mem_append_right _ g)) h0 h1 (by show at_+_<=_;omega) (by show at_-R.line.base+_<=_;omega) d];rfl
theorem fE(R:aa)(who:Int)(x:ax):bH R (R.post who x):= .same rfl rfl
theorem mD(R:aa)(who:Int):bH R (R.send who):=by obtain⟨y,a⟩:=dj R who;rw[a];exact .same rfl rfl
theorem jq(R:aa):bH R (R.others aa.send):=by obtain⟨o,a, -⟩:=eG (f:=aa.send) dj R;rw[a];exact .same rfl rfl
theorem gz(R:aa):bH R R.look:=by obtain⟨m,c,he, -⟩:=ch R;rw[he];exact .same rfl rfl
theorem oD{R:aa}(b:R.line.Good)(it:ar)(h:(R.add it).2≠0):bH R ((R.add it).1.noteItems (R.add it).2):=by
 rcases iw R.line it with e | ⟨e,g,j⟩
 ·exact absurd (by show(R.line.add it).2=0;rw[e]) h
 ·have f:R.add it=({ R with line:={ R.line with l:=R.line.l++ [it] } },R.line.last+1):=by unfold aa.add;rw[e]
  rw[f];have i:R.line.last=R.line.base+(R.line.l.length:Int):=rfl;have a:=b.add it;rw[e]at a;have d:R.line.l.take (R.line.last+1-R.line.base-1).toNat=R.line.l:=List.take_of_length_le (by omega);have c:=lg (R:=R) b (at_:=R.line.last+1) (its:= [it]) (by simp) (by omega) (by omega) (by rw[d];exact a);rw[d]at c;exact c
theorem rR(R:aa)(hg:R.line.Good):bH R R.goLead:=by
 refine bH.trans (bH.trans (S:=R.lead1) ?_ (gz _)) (jq _);have b:bH R R.lead0:= .same rfl rfl;unfold aa.lead1;simp only;split
 ·rename_i a
  exact b.trans (oD (R:=R.lead0) hg (R.bt,[]) (by omega))
 ·rename_i a
  refine b.trans ?_;rcases iw R.lead0.line (R.bt,[]) with e | ⟨e,c,d⟩
  ·have:(R.lead0.add (R.bt,[])).1=R.lead0:=by unfold aa.add;rw[e]
   rw[this];exact .refl _
  ·exfalso;apply a;show 0<(R.lead0.line.add (R.bt,[])).2;rw[e];have:=hg.b0;show 0<R.line.base+(R.line.l.length:Int)+1;omega
theorem lh(R:aa)(hg:R.line.Good)(f:Int):bH R (R.count f):=by
 unfold aa.count;simp only;split
 ·exact bH.trans (S:={ R with votes:=R.votes.set f.toNat 1 }) (.same rfl rfl) (rR _ hg)
 ·exact .same rfl rfl
theorem qf{R:aa}(h:R.Ok):bH R R.stand:=by
 unfold aa.stand;split
 ·exact .same rfl rfl
 ·rename_i c
  have k:=h.bt0;have j:=h.me0;have g:=h.men;have d:=h.n7;obtain⟨o,e⟩:=fQ (fun S a=>S.post a ⟨1,0,R.line.last,(bk R.line R.line.last).1,0,false,[],[]⟩) (fun S i=>⟨_,rfl⟩) R.stand0;rw[e];have b:bH R R.stand0:=bH.trans (S:={ R with ticks:=0 }) (.same rfl rfl) (bH.trans (gA (R:={ R with ticks:=0 }) (t:=R.bt+1) (f:=R.me) (by omega) (by omega) (by omega) (by omega)) (.same rfl rfl));exact(b.trans (.same rfl rfl)).trans (lh { R.stand0 with out:=o } h.line _)
theorem mC{R:aa}(h:R.Ok):bH R R.tick:=by
 unfold aa.tick;simp only;split
 ·exact bH.trans (S:={ R with ticks:=0 }) (.same rfl rfl) (jq _)
 ·split
  ·have e:({ R with ticks:=R.ticks+1 }:aa).stand=R.stand:=by
    unfold aa.stand;simp only;rfl
   rw[e];exact qf h
  ·exact .same rfl rfl
theorem iZ{R:aa}(h:R.Ok)(b:List UInt8):bH R (R.propose b).1:=by
 unfold aa.propose;split
 ·exact .refl _
 ·split
  ·exact .refl _
  ·split
   ·exact .refl _
   ·simp only;split
    ·exact .refl _
    ·rename_i a
     exact((oD h.line (R.bt,b) a).trans (gz _)).trans (jq _)
theorem qh{R:aa}(h:R.Ok)(f:Int)(x:ax):bH R (R.asked f x):=by
 unfold aa.asked;simp only;refine bH.trans ?_ (fE _ _ _);generalize ed x.a x.u R.line.last (bk R.line R.line.last).1=b;have d:bH R (if bJ R.bt R.bf f x.t b=true then({ R with ticks:=0 }:aa) else R):=by
  split
  ·exact .same rfl rfl
  ·exact .refl _
 have c: -1<=cW R.bt R.bf f x.t b/\cW R.bt R.bf f x.t b<=6:=by
  unfold cW;split
  ·rename_i e;have:=pH (ip e);omega
  ·exact⟨h.bf0,h.bf1⟩
 split
 ·refine d.trans ?_;rw[gw];exact gA h.bt0 h.bt1 c.1 c.2
 ·exact d
theorem rQ{R:aa}(h:R.Ok)(f:Int)(x:ax):bH R (R.said f x):=by
 unfold aa.said;split
 ·exact lh _ h.line _
 ·exact .refl _
theorem jd(R:aa)(f:Int)(x:ax):bH R (R.follows f x).1:=by
 unfold aa.follows;split
 ·exact fE _ _ _
 ·split
  ·exact .refl _
  ·exact .same rfl rfl
theorem rP{R:aa}(h:R.Ok)(f:Int)(x:ax):bH R (R.sent f x):=by
 unfold aa.sent;have c:=dw h f x;have hT:=jd R f x;generalize R.follows f x=F at c hT;obtain⟨S,b⟩:=F;have c:S.Ok:=c;have hT:bH R S:=hT;show bH R (if b=true then S.sent1 f x else S);split
 ·refine hT.trans ?_;unfold aa.sent1;simp only;have l:=c.line.join x.a x.u x.its;rcases gv c.line x.a x.u x.its with e | ⟨e, -⟩ | ⟨j,k,e,p,n,t,s,m,i, -, -, -, -,g⟩
  ·rw[e];simp only;rw[if_neg (by simp)];simp only[if_true];exact fE _ _ _
  ·rw[e];simp only;rw[if_neg (by simp),if_neg (by simp),if_neg (by simp)];exact bH.trans (S:={ S with commit:=max S.commit (min x.o (x.a+x.its.length)) }) (.same rfl rfl) (fE _ _ _)
  ·rw[e]at l ⊢;simp only at l ⊢;have q:=c.line.b0;split
   ·exact .refl _
   ·rw[if_neg (by simp),if_pos (by omega)];have d:x.its.drop k≠ []:=fun r=>by
     have:=congrArg List.length r;simp at this;omega
    exact bH.trans (lg c.line d m i l) (.same rfl rfl)
 ·exact hT
theorem tT(R:aa)(f:Int)(x:ax):bH R (R.got f x):=by
 unfold aa.got;split
 ·exact .refl _
 ·split
  ·simp only;split
   ·exact(bH.trans (S:={ R with mat:=R.mat.set f.toNat (max (R.mat.getD f.toNat 0) x.a),nxt:=R.nxt.set f.toNat (max (R.nxt.getD f.toNat 0) (x.a+1)) }) (.same rfl rfl) (gz _)).trans (mD _ _)
   ·exact bH.trans (S:={ R with mat:=R.mat.set f.toNat (max (R.mat.getD f.toNat 0) x.a),nxt:=R.nxt.set f.toNat (max (R.nxt.getD f.toNat 0) (x.a+1)) }) (.same rfl rfl) (gz _)
  ·split
   ·exact bH.trans (S:={ R with nxt:=R.nxt.set f.toNat (max (R.mat.getD f.toNat 0+1) (min (x.a+1) x.o)) }) (.same rfl rfl) (mD _ _)
   ·exact .refl _
theorem pm{R:aa}(h:R.Ok){t:Int}(h1:t<=1099511627776):bH R (R.stepUp t):=by
 unfold aa.stepUp;split
 ·have a:=h.bt0;exact(gA (by omega) h1 (by omega) (by omega)).trans (.same rfl rfl)
 ·exact .refl _
theorem qg{R:aa}(h:R.Ok)(f:Int)(x:ax):(bH R (R.given f x)/\(R.given f x).jumped=R.jumped)\/(R.given f x).jumped=true:=by
 unfold aa.given;have hT:=jd R f x;have a:(R.follows f x).1.jumped=R.jumped:=by
  unfold aa.follows;split
  ·rfl
  ·split<;>rfl
 generalize R.follows f x=F at hT a;obtain⟨S,b⟩:=F;have hT:bH R S:=hT;have a:S.jumped=R.jumped:=a;show(bH R (if b=true then S.given1 f x else S)/\(if b=true then S.given1 f x else S).jumped=R.jumped)\/(if b=true then S.given1 f x else S).jumped=true;split
 ·unfold aa.given1;split
  ·exact .inl ⟨hT.trans (fE _ _ _),a⟩
  ·exact .inr rfl
 ·exact .inl ⟨hT,a⟩
theorem jV{R:aa}(h:R.Ok)(f:Int)(x:ax):bH R (R.handle f x)\/(R.handle f x).jumped=true:=by
 unfold aa.handle;split
 ·exact .inl (.refl _)
 ·rename_i e
  have d:aO x=true:=by
   cases hh:aO x with
   | true=>rfl
   | false=>exact absurd (.inr (.inr (.inr hh))) e
  have b:=gp h (aH d).2.1.2;have a:=pm h (aH d).2.1.2;unfold aa.heard;split
  ·exact .inl (a.trans (qh b f x))
  ·split
   ·exact .inl (a.trans (rQ b f x))
   ·split
    ·exact .inl (a.trans (rP b f x))
    ·split
     ·exact .inl (a.trans (tT _ f x))
     ·split
      ·rcases qg b f x with c | c
       ·exact .inl (a.trans c.1)
       ·exact .inr c
      ·exact .inl a
theorem jg(l:List ar)(k:Nat):(aw (l.drop k)).length<=(aw l).length:=by
 conv=>rhs;rw[<-List.take_append_drop k l,cP,List.length_append]
 omega
theorem lj{it:ar}(h:bj it=true):(aw [it]).length<=18+it.2.length:=by obtain⟨e,d,c⟩:=(br _).1 h;have b:=ck (show it.1.toNat<18446744073709551616 by omega);have a:=ck (show it.2.length<18446744073709551616 by omega);simp[aw,bN];omega
theorem jh:∀(a:Int) (l:List ar),(cq a l).length=l.length
 | _,[]=>rfl
 | a,it::l=>by simp[cq,jh (a+1) l]
def aU(a b c:Nat)(R R':aa):Prop:=R'.news.length<=R.news.length+a/\R'.out.length<=R.out.length+b/\(aw R'.line.l).length<=(aw R.line.l).length+c
theorem aU.refl(R:aa):aU 0 0 0 R R:=⟨by omega,by omega,by omega⟩
theorem aU.trans{a b c a' b' c':Nat}{R S T:aa}(h:aU a b c R S)(k:aU a' b' c' S T):aU (a+a') (b+b') (c+c') R T:=⟨by have:=h.1;have:=k.1;omega,by have:=h.2.1;have:=k.2.1;omega,by have:=h.2.2;have:=k.2.2;omega⟩
theorem aU.le{a b c a' b' c':Nat}{R S:aa}(h:aU a b c R S)(h1:a<=a':=by omega)(h2:b<=b':=by omega)(h3:c<=c':=by omega):aU a' b' c' R S:=⟨by have:=h.1;omega,by have:=h.2.1;omega,by have:=h.2.2;omega⟩
theorem aU.same{R R':aa}(h1:R'.news=R.news:=by rfl)(h2:R'.out=R.out:=by rfl)(h3:R'.line=R.line:=by rfl):aU 0 0 0 R R':=⟨by rw[h1];omega,by rw[h2];omega,by rw[h3];omega⟩
theorem eK(R:aa)(who:Int)(x:ax):aU 0 1 0 R (R.post who x):=⟨Nat.le_refl _,by simp[aa.post],Nat.le_refl _⟩
theorem nD(R:aa)(who:Int):aU 0 1 0 R (R.send who):=by obtain⟨y,a⟩:=dj R who;rw[a];exact⟨Nat.le_refl _,by simp,Nat.le_refl _⟩
theorem ft{R:aa}(c:R.n<=7)(f:aa->Int->aa)(hf:∀R i,∃y,f R i={ R with out:=R.out++ [y] }):aU 0 7 0 R (R.others f):=by obtain⟨o,a,b⟩:=eG hf R;rw[a];exact⟨Nat.le_refl _,by show o.length<=_;omega,Nat.le_refl _⟩
theorem jF(R:aa):aU 0 0 0 R R.look:=by obtain⟨m,c,he, -⟩:=ch R;rw[he];exact .same
theorem kS(R:aa):aU 1 0 0 R R.noteBallot:=⟨by simp[aa.noteBallot],Nat.le_refl _,Nat.le_refl _⟩
theorem vQ(x:ae)(i:Int):(x.from_ i 4096).length<=4096:=by
 unfold ae.from_;split
 ·simp
 ·simp;omega
theorem fc(R:aa)(a:Int):aU 4096 0 0 R (R.noteItems a):=⟨by have:=vQ R.line a;simp[aa.noteItems,jh];omega,Nat.le_refl _,Nat.le_refl _⟩
theorem oZ(R:aa)(it:ar):aU 0 0 (18+it.2.length) R (R.add it).1:=by
 refine⟨Nat.le_refl _,Nat.le_refl _,?_⟩;show(aw (R.line.add it).1.l).length<=_;rcases iw R.line it with e | ⟨e,a, -⟩<;>rw[e]
 ·show(aw R.line.l).length<=_;omega
 ·show(aw (R.line.l++ [it])).length<=_;rw[cP,List.length_append];have:=lj a;omega
theorem pK{R:aa}(d:R.n<=7):aU 4096 7 18 R R.goLead:=by
 have g:aU 4096 0 18 R R.lead1:=by
  have b:aU 0 0 0 R R.lead0:= .same;have a:aU 0 0 18 R.lead0 (R.lead0.add (R.bt,[])).1:=oZ R.lead0 (R.bt,[]);unfold aa.lead1;simp only;split
  ·exact((b.trans a).trans (fc _ _)).le
  ·exact(b.trans a).le
 have f:R.lead1.look.n<=7:=by obtain⟨m,c,he, -⟩:=ch R.lead1;obtain⟨l,n,e⟩:=kn R;rw[he,e];exact d
 exact((g.trans (jF _)).trans (ft f _ dj)).le
theorem lD{R:aa}(a:R.n<=7)(f:Int):aU 4096 7 18 R (R.count f):=by
 unfold aa.count;simp only;split
 ·exact(aU.trans (S:={ R with votes:=R.votes.set f.toNat 1 }) .same (pK a)).le
 ·exact(aU.same (R':={ R with votes:=R.votes.set f.toNat 1 })).le
theorem qZ{R:aa}(b:R.n<=7):aU 4097 14 18 R R.stand:=by
 unfold aa.stand;split
 ·exact(aU.same (R':={ R with ticks:=0 })).le
 ·have f:aU 1 0 0 R R.stand0:=⟨by simp[aa.stand0,aa.noteBallot],Nat.le_refl _,Nat.le_refl _⟩
  have d:=ft (R:=R.stand0) b (fun S a=>S.post a ⟨1,0,R.line.last,(bk R.line R.line.last).1,0,false,[],[]⟩) (fun S i=>⟨_,rfl⟩);obtain⟨o,e⟩:=fQ (fun S a=>S.post a ⟨1,0,R.line.last,(bk R.line R.line.last).1,0,false,[],[]⟩) (fun S i=>⟨_,rfl⟩) R.stand0;have c:(R.stand0.others fun S a=>S.post a ⟨1,0,R.line.last,(bk R.line R.line.last).1,0,false,[],[]⟩).n<=7:=by rw[e];exact b
  exact((f.trans d).trans (lD c _)).le
theorem nC{R:aa}(a:R.n<=7):aU 4097 14 18 R R.tick:=by
 unfold aa.tick;simp only;split
 ·exact(aU.trans (S:={ R with ticks:=0 }) (a':=0) (b':=7) (c':=0) .same (ft (R:={ R with ticks:=0 }) a _ dj)).le
 ·split
  ·exact(aU.trans (S:={ R with ticks:=R.ticks+1 }) (a':=4097) (b':=14) (c':=18) .same (qZ (R:={ R with ticks:=R.ticks+1 }) a)).le
  ·exact(aU.same (R':={ R with ticks:=R.ticks+1 })).le
theorem ji{R:aa}(d:R.n<=7)(b:List UInt8):aU 4096 7 (18+b.length) R (R.propose b).1:=by
 unfold aa.propose;split
 ·exact(aU.refl _).le
 ·split
  ·exact(aU.refl _).le
  ·split
   ·exact(aU.refl _).le
   ·simp only;split
    ·exact(aU.refl _).le
    ·have e:((R.add (R.bt,b)).1.noteItems (R.add (R.bt,b)).2).look.n<=7:=by
      obtain⟨m,c,he, -⟩:=ch ((R.add (R.bt,b)).1.noteItems (R.add (R.bt,b)).2);rw[he];exact d
     have a:aU 0 0 (18+b.length) R (R.add (R.bt,b)).1:=oZ R (R.bt,b);exact(((a.trans (fc _ _)).trans (jF _)).trans (ft e _ dj)).le
theorem rd(R:aa)(f:Int)(x:ax):aU 1 1 0 R (R.asked f x):=by
 unfold aa.asked;simp only;generalize ed x.a x.u R.line.last (bk R.line R.line.last).1=d;have e:aU 0 0 0 R (if bJ R.bt R.bf f x.t d=true then({ R with ticks:=0 }:aa) else R):=by
  split
  ·exact .same
  ·exact .refl _
 refine(aU.trans (a:=1) (b:=0) (c:=0) ?_ (eK _ _ _)).le;split
 ·refine(e.trans (aU.trans (S:={ (if bJ R.bt R.bf f x.t d=true then({ R with ticks:=0 }:aa) else R) with bt:=fY R.bt R.bf f x.t d,bf:=cW R.bt R.bf f x.t d }) .same (kS _))).le
 ·exact e.le
theorem sC{R:aa}(a:R.n<=7)(f:Int)(x:ax):aU 4096 7 18 R (R.said f x):=by
 unfold aa.said;split
 ·exact lD a f
 ·exact(aU.refl _).le
theorem eQ(R:aa)(f:Int)(x:ax):aU 0 1 0 R (R.follows f x).1:=by
 unfold aa.follows;split
 ·exact eK _ _ _
 ·split
  ·exact(aU.refl _).le
  ·exact(aU.same (R':={ R with role:=0,lead:=f,ticks:=0 })).le
theorem sB{R:aa}(h:R.Ok)(f:Int)(x:ax):aU 4096 2 (aw x.its).length R (R.sent f x):=by
 unfold aa.sent;have c:=dw h f x;have hT:=eQ R f x;generalize R.follows f x=F at c hT;obtain⟨S,b⟩:=F;have c:S.Ok:=c;have hT:aU 0 1 0 R S:=hT;show aU _ _ _ R (if b=true then S.sent1 f x else S);split
 ·refine(aU.trans (a':=4096) (b':=1) (c':=(aw x.its).length) hT ?_).le;unfold aa.sent1;simp only;rcases gv c.line x.a x.u x.its with e | ⟨e, -⟩ | ⟨j,k,e,i,g,s,r,n,m, -, -, -, -,d⟩
  ·rw[e];simp only;rw[if_neg (by simp)];simp only[if_true];exact(eK _ _ _).le
  ·rw[e];simp only;rw[if_neg (by simp),if_neg (by simp),if_neg (by simp)];exact(aU.trans (S:={ S with commit:=max S.commit (min x.o (x.a+x.its.length)) }) .same (eK _ _ _)).le
  ·rw[e];simp only;have p:=c.line.b0;split
   ·exact(aU.refl _).le
   ·rw[if_neg (by simp),if_pos (by omega)];have q:aU 0 0 (aw x.its).length S { S with line:={ S.line with l:=S.line.l.take (j-S.line.base-1).toNat++x.its.drop k } }:=by
     refine⟨Nat.le_refl _,Nat.le_refl _,?_⟩;show(aw (S.line.l.take (j-S.line.base-1).toNat++x.its.drop k)).length<=_;rw[cP,List.length_append];have:=fX S.line.l (j-S.line.base-1).toNat;have:=jg x.its k;omega
    exact((q.trans (fc _ j)).trans (aU.trans (R:=({ S with line:={ S.line with l:=S.line.l.take (j-S.line.base-1).toNat++x.its.drop k } }:aa).noteItems j) (S:={ (({ S with line:={ S.line with l:=S.line.l.take (j-S.line.base-1).toNat++x.its.drop k } }:aa).noteItems j) with commit:=max S.commit (min x.o (x.a+x.its.length)) }) .same (eK _ _ _))).le
 ·exact hT.le
theorem uC(R:aa)(f:Int)(x:ax):aU 0 1 0 R (R.got f x):=by
 unfold aa.got;split
 ·exact(aU.refl _).le
 ·split
  ·have b:aU 0 0 0 R ({ R with mat:=R.mat.set f.toNat (max (R.mat.getD f.toNat 0) x.a),nxt:=R.nxt.set f.toNat (max (R.nxt.getD f.toNat 0) (x.a+1)) }:aa).look:=(aU.trans (S:={ R with mat:=R.mat.set f.toNat (max (R.mat.getD f.toNat 0) x.a),nxt:=R.nxt.set f.toNat (max (R.nxt.getD f.toNat 0) (x.a+1)) }) .same (jF _)).le;simp only;split
   ·exact(b.trans (nD _ _)).le
   ·exact b.le
  ·split
   ·exact(aU.trans (S:={ R with nxt:=R.nxt.set f.toNat (max (R.mat.getD f.toNat 0+1) (min (x.a+1) x.o)) }) .same (nD _ _)).le
   ·exact(aU.refl _).le
theorem r9(R:aa)(f:Int)(x:ax):aU 0 2 0 R (R.given f x):=by
 unfold aa.given;have hT:=eQ R f x;generalize R.follows f x=F at hT;obtain⟨S,b⟩:=F;have hT:aU 0 1 0 R S:=hT;show aU _ _ _ R (if b=true then S.given1 f x else S);split
 ·refine(hT.trans (a':=0) (b':=1) (c':=0) ?_).le;unfold aa.given1;split
  ·exact eK _ _ _
  ·refine⟨Nat.le_refl _,by simp[aa.post],?_⟩;show(aw (S.giveLine x).l).length<=_;unfold aa.giveLine;split
   ·unfold ae.drop;split
    ·show(aw S.line.l).length<=_;omega
    ·have:=jg S.line.l (x.a-S.line.base).toNat;show(aw (S.line.l.drop (x.a-S.line.base).toNat)).length<=_;omega
   ·show(aw []).length<=_;simp[aw]
 ·exact hT.le
theorem kt(R:aa)(t:Int):aU 1 0 0 R (R.stepUp t):=by
 unfold aa.stepUp;split
 ·exact⟨by simp[aa.noteBallot],Nat.le_refl _,Nat.le_refl _⟩
 ·exact(aU.refl _).le
theorem ku{R:aa}(h:R.Ok)(f:Int)(x:ax):aU 4097 7 (18+(aw x.its).length) R (R.handle f x):=by
 unfold aa.handle;split
 ·exact(aU.refl _).le
 ·rename_i d
  have c:aO x=true:=by
   cases hh:aO x with
   | true=>rfl
   | false=>exact absurd (.inr (.inr (.inr hh))) d
  have b:=gp h (aH c).2.1.2;have a:=kt R x.t;unfold aa.heard;split
  ·exact(a.trans (rd _ f x)).le
  ·split
   ·exact(a.trans (sC b.n7 f x)).le
   ·split
    ·exact(a.trans (sB b f x)).le
    ·split
     ·exact(a.trans (uC _ f x)).le
     ·split
      ·exact(a.trans (r9 _ f x)).le
      ·exact a.le
end Go.Proofs.YtogcnfhmcpkdcaaGreat
