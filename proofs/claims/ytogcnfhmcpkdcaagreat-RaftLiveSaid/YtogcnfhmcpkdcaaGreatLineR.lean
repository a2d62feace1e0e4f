/-
Contract of the reference's Num: a number's bytes.
-/
import Derived.Test.YtogcnfhmcpkdcaaGreatFieldM
import Derived.Test.YtogcnfhmcpkdcaaGreatPenLaw
import Derived.Test.YtogcnfhmcpkdcaaGreatSlMem
import Derived.Test.YtogcnfhmcpkdcaaGreatLine1
import Derived.Test.YtogcnfhmcpkdcaaGreatPenZ
import Derived.Test.YtogcnfhmcpkdcaaGreatLineM8
import Derived.Test.YtogcnfhmcpkdcaaGreatLineM6
namespace Go.Proofs.YtogcnfhmcpkdcaaGreat
open Go.RowKit
set_option linter.unusedVariables false
set_option linter.unusedSimpArgs false
theorem cP(a b:List ar):aw (a++b)=aw a++aw b:=by
 induction a with
 | nil=>rfl
 | cons x l ih=>simp[aw,ih,List.append_assoc]
theorem fX(l:List ar)(k:Nat):(aw (l.take k)).length<=(aw l).length:=by have h:=cP (l.take k) (l.drop k);rw[List.take_append_drop]at h;rw[h,List.length_append];omega
theorem dW{ms:List af}{k:Nat}{m:af}(a:ms[k]? =some m):aw ((ms.take (k+1)).map af.it)=aw ((ms.take k).map af.it)++aC m.t.toNat++bN m.b:=by
 have c:k<ms.length:=(List.getElem?_eq_some_iff.1 a).1;have e:ms[k]=m:=by simpa[List.getElem?_eq_getElem c] using a
 rw[List.take_succ_eq_append_getElem c,e,List.map_append,cP];simp[aw,List.append_assoc]
theorem om{ms:List af}{k:Nat}{m:af}(a:ms[k]? =some m):m.b.length<=(aw (ms.map af.it)).length:=by have c:k<ms.length:=(List.getElem?_eq_some_iff.1 a).1;have h:=fX (ms.map af.it) (k+1);rw[<-List.map_take,dW a]at h;simp[bN]at h;omega
set_option maxRecDepth 100000 in
set_option maxHeartbeats 1000000 in
theorem vB(base p:Nat)(x:ae)(hg:x.Good)(la:Option Addr)(lc:Nat)(ms:List af)(w:World)(h:cE w base p x la lc ms)(hlen:x.put.length<=900000):
  Calls Tryz.prog 37 #[.pointer (some ⟨p,0,none⟩)] w fun e w'=>∃a c,e= .returned (.slice a x.put.length c)/\aM w' w'.heap.size a x.put.length c x.put/\Below w.heap.size w w'/\w'.ownsRow w.heap.size 5 1 (.slice a x.put.length c) x.put.length (x.put.map bv):=by
 obtain⟨c0,c1,c2, -⟩:=h.cells;obtain⟨B,hB⟩:∃B:Nat,x.base=B:=⟨x.base.toNat,by have:=hg.b0;omega⟩
 obtain⟨T,hT⟩:∃T:Nat,x.term=T:=⟨x.term.toNat,by have:=hg.t0;omega⟩
 have hB1:B<=1099511627776:=by have:=hg.b1;omega
 have hT1:T<=1099511627776:=by have:=hg.t1;omega
 have hN:ms.length<=4096:=by have:=hg.n1;have:=h.len;omega
 have q:=h.lt;have f:x.put=aC B++aC T++aC ms.length++aw (ms.map af.it):=by rw[ae.put,hB,hT,h.its,h.len];rfl
 have ad:(aC B++aC T++aC ms.length++aw (ms.map af.it)).length<=900000:=by rw[<-f];exact hlen
 rw[f];have H:=Hh h;have HG:=Hh hg;have z:=h.sl;have HIT:=Hh z;have HRI:=Hh (show ∀m∈ms,0<=m.t/\m.t<=1099511627776 from fun m J=>by have h9:=hg.its m.it (by rw[<-h.its];exact List.mem_map_of_mem J);have:=(br _).1 h9;exact⟨this.1,this.2.1⟩)
 rw[hB]at c0;rw[hT]at c1;have C1:=Hh c1;have C2:=Hh c2;have HPN:=Hh (cy.new 86 w);have d:=Hh ad;clear h hg hB hT f hlen z c1 c2 ad;go_enter Tryz.func37,Tryz.ntmps37
 go_wp2_with fail;refine(dE w.heap.size B (by omega) (.slice none 0 0) [] (by simp) _ HPN.out).mono ?_;rintro e w2 ⟨rfl,v2,l2,a6,a3,a1,ac⟩;have l:Below w.heap.size w w2:=((Below.refl _ w).alloc (Nat.le_refl _) _).trans ac;simp only[List.length_nil]at a3;have c1:=(l.cell (p:=⟨p,1,none⟩) q).trans C1.out;have HB2:=Hh l;have HL2:=Hh a6;have HP2:=Hh a1;clear ac l a6 a1 c0;go_wp2_with fail;refine(dE w.heap.size T (by omega) v2 l2 (by omega) _ HP2.out).mono ?_;rintro e w3 ⟨rfl,v3,l3,a5,hn3,a0,ab⟩;have k:=HB2.out.trans ab;have c2:=(k.cell (p:=⟨p,2,none⟩) q).trans C2.out;have HB3:=Hh k;have HL3:=Hh a5;have HP3:=Hh a0;clear ab k a5 a0 c1;go_wp2_with fail;refine(dE w.heap.size ms.length (by omega) v3 l3 (by omega) _ HP3.out).mono ?_;rintro e w4 ⟨rfl,v4,V,N,hn4,Z,aa⟩;have j:=HB3.out.trans aa;have c2:=(j.cell (p:=⟨p,2,none⟩) q).trans C2.out;have HB4:=Hh j;have U:=Hh (show V=aC B++aC T++aC ms.length by rw[N,HL3.out,HL2.out];simp);have HP4:=Hh Z;clear aa j N Z c2 a3 hn3 hn4;obtain⟨d0,d1,d2⟩:True/\True/\w4.cell? ⟨p,2,none⟩=some (.slice la ms.length lc):=⟨trivial,trivial,(HB4.out.cell (p:=⟨p,2,none⟩) q).trans C2.out⟩
 clear d0 d1;go_wp2_with fail;have N:V.length<=900000:=by have:=d.out;rw[<-U.out,List.length_append]at this;omega
 go_loopw [30] (fun iv wr=>∃(i:Nat) (v:Value) (L:List UInt8),iv= .int .i64 i/\i<=ms.length/\L=V++aw ((ms.take i).map af.it)/\cy 5 wr w.heap.size v L/\Below w.heap.size w wr) (fun iv _=>ms.length-(intOf iv).toNat)
 case atStart=>exact⟨0,v4,V,rfl,by omega,by simp[aw],HP4.out,HB4.out⟩
 case round=>
  obtain⟨i,v,L,rfl,hi,hL,hp,g⟩:=hrel;have S:=Hh hL;have HP:=Hh hp;have HB:=Hh g;have D:=g.size;clear hL hp g d2;by_cases y:i<ms.length
  ·obtain⟨m,J⟩:∃m,ms[i]? =some m:=⟨_,List.getElem?_eq_getElem y⟩
   have r:=List.mem_of_getElem? J;have HM:=Hh J;obtain⟨b,o,rfl,hb,k0,k1⟩:=HIT.out.cell J;have O:=HIT.out.bs m r;have I:m.n=m.b.length:=O.hlen.symm;rw[I]at k1;obtain⟨M,hM⟩:∃M:Nat,m.t=M:=⟨m.t.toNat,by have:=HRI.out m r;omega⟩
   have hM1:M<=1099511627776:=by have:=HRI.out m r;omega
   rw[hM]at k0;have c0:wr.cell? ⟨b,o+i*2,none⟩=some (.int .i64 M):=(HB.out.cell (p:=⟨b,o+i*2,none⟩) hb).trans k0;have c1:wr.cell? ⟨b,o+i*2+1,none⟩=some (.slice m.a m.b.length m.c):=(HB.out.cell (p:=⟨b,o+(i*2+1),none⟩) hb).trans k1;have HBM:=Hh (show aM w w.heap.size m.a m.b.length m.c m.b from by rw[<-I];exact O);have HMT:=Hh (show m.t.toNat=M by omega);have tk:decide ((i:Int)<(ms.length:Int))=true:=by simpa using y
   have hi0:(0:Int)<=(i:Int):=by omega
   have hi1:(i:Int)<(ms.length:Int):=by omega
   have hLl:L.length<=900000:=by have h9:=d.out;rw[<-U.out,List.length_append]at h9;have h8:=fX (ms.map af.it) i;rw[S.out,List.length_append,List.map_take];omega
   have hbl:m.b.length<=900000:=by have h9:=d.out;rw[List.length_append]at h9;have h8:=om J;omega
   obtain⟨A,hA⟩:∃A,A=wr.alloc (.cells #[.int .i64 M, .slice m.a m.b.length m.c] 40):=⟨_,rfl⟩
   have P:Below wr.heap.size wr A:=by rw[hA];exact(Below.refl _ _).alloc (Nat.le_refl _) _
   have W:A.heap[wr.heap.size]? =some (.cells #[.int .i64 M, .slice m.a m.b.length m.c] 40 (0,0)):=by rw[hA];exact heap_alloc_new _ _
   have HA:=Hh hA;have HRA:=Hh W;have HBA:=Hh (HB.out.trans (P.mono D));have HPA:=Hh (HP.out.below P);have hsA:A.heap.size=wr.heap.size+1:=by rw[hA];simp
   have hqr:w.heap.size<wr.heap.size:=HP.out.lt;clear k0 k1 J r O I hM hA P W;go_wp2_with fail;rw[<-HA.out];refine(kK w.heap.size M (by omega) v L (by omega) _ HPA.out).mono ?_;rintro e w5 ⟨rfl,v5,G,F⟩;obtain⟨l5,s⟩:∃l5,l5=L++aC M:=⟨_,rfl⟩
   have hn5:l5.length<=900009:=by rw[s,List.length_append];have:=ck (show M<18446744073709551616 by omega);omega
   rw[<-s]at G;have X:=(F.block wr.heap.size (by omega) (by omega) (fun e=>by have:=(own_lt HP.out.own e).2;omega)).trans HRA.out;have c5:w5.cell? ⟨wr.heap.size,1,none⟩=some (.slice m.a m.b.length m.c):=cell_of_row w5 wr.heap.size 1 _ _ _ X;have HB5:=Hh (HBA.out.trans (F.below HPA.out (Nat.le_refl _)));have HL5:=Hh s;have HP5:=Hh G;have HBM5:=Hh (HBM.out.below HB5.out (Nat.le_refl _));clear s G F X c0 c1;go_wp2_with fail;refine(i9 w.heap.size v5 l5 (by omega) m.b m.a m.b.length m.c (by omega) _ HBM5.out HP5.out).mono ?_;rintro e w6 ⟨rfl,v6,l6,a4,hn6,Y,a8⟩;have HB6:=Hh (HB5.out.trans a8);have HL6:=Hh (show l6=V++aw ((ms.take (i+1)).map af.it) by rw[a4,HL5.out,S.out,dW HM.out,HMT.out];simp[List.append_assoc])
   have HP6:=Hh Y;clear a4 hn6 Y a8 c5;go_wp2;go_roundw
   case rel=>exact⟨i+1,v6,l6,by go_num,y,HL6.out,HP6.out,HB6.out⟩
   case measure=>simp[intOf];omega
  ·have tk:decide ((i:Int)<(ms.length:Int))=false:=by simpa using y
   have hie:i=ms.length:=by omega
   subst hie;have R:L=aC B++aC T++aC ms.length++aw (ms.map af.it):=by rw[S.out,U.out,List.take_length]
   have HLF:=Hh R;rw[<-R]at d;have hlf:=d.out;go_wp2_with fail;refine(du w.heap.size v L (by omega) _ HP.out).mono ?_;rintro e w9 ⟨a9,c9,rfl,C,a7,a2⟩;have HBS9:=Hh C;have HO9:=Hh (World.ownsRow.mono a2 D);have HB9:=Hh (HB.out.trans (a7.mono D));clear C a7 a2 R;go_wp2;go_ret;rw[<-HLF.out];exact⟨a9,c9,rfl,HBS9.out,HB9.out,HO9.out⟩
set_option linter.unusedSimpArgs false
end Go.Proofs.YtogcnfhmcpkdcaaGreat
