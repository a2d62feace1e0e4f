/-
Contract of letter.Put: the form of a letter, in a row of bytes of its own.
-/
import Derived.Test.YtogcnfhmcpkdcaaGreatLetPl
import Derived.Test.YtogcnfhmcpkdcaaGreatLetM2
import Derived.Test.YtogcnfhmcpkdcaaGreatPenZ
import Derived.Test.YtogcnfhmcpkdcaaGreatLineR
import Derived.Test.YtogcnfhmcpkdcaaGreatSlMem
set_option maxRecDepth 100000
set_option maxHeartbeats 2000000
namespace Go.Proofs.YtogcnfhmcpkdcaaGreat
open Go.RowKit
set_option linter.unusedVariables false
set_option linter.unusedSimpArgs false
def zv(n:Nat):Value:= .int .i64 (n:Int)
theorem xc(q:Nat)(v:Value)(L:List UInt8)(hL:L.length<=900000)(zs:List Nat)(hz:∀n∈zs,n<=1099511627776)(hn:zs.length<=10)(b:Nat)(w:World)(hp:cy 5 w q v L)(hc:∀i n,zs[i]? =some n->w.cell? ⟨b,i,none⟩=some (zv n))(hbl:b<w.heap.size)(hbq:b≠q)(hbv:v.ownBlock≠some b):
  Calls Tryz.prog 100 #[.slice (some ⟨b,0,none⟩) zs.length zs.length, .pointer (some ⟨q,0,none⟩)] w fun e w'=>e= .returned (.tuple #[])/\∃v',cy 5 w' q v' (L++aX zs)/\cM q v w w' v':=by
 have M:=Hh hp;have HC:=Hh hc;clear hp hc;go_enter Tryz.func100,Tryz.ntmps100
 go_wp2_with fail;go_loopw [7] (fun s wr=>∃(i:Nat) (v':Value) (f:List UInt8),s= .int .i64 i/\i<=zs.length/\f=L++aX (zs.take i)/\cy 5 wr q v' f/\cM q v w wr v') (fun s _=>zs.length-(intOf s).toNat)
 case atStart=>exact⟨0,v,L,rfl,by omega,by simp[aX],M.out,cM.refl _ _ _⟩
 case round=>
  obtain⟨i,v',f,rfl,O,p,l,k⟩:=hrel;have h:=Hh p;have r:=Hh l;have g:=Hh k;clear p l k;by_cases c:i<zs.length
  ·have D:decide (i<zs.length)=true:=by simpa using c
   obtain⟨n,d⟩:∃n,zs[i]? =some n:=⟨_,List.getElem?_eq_getElem c⟩
   have G:=hz n (List.mem_of_getElem? d);have F:wr.cell? ⟨b,i,none⟩=some (.int .i64 (n:Int)):=(World.cell?_of_block (a:=⟨b,i,none⟩) (g.out.block b hbl hbq hbv)).trans (HC.out i n d);have J:(0:Int)<=(i:Int):=by omega
   have I:(i:Int)<(zs.length:Int):=by omega
   have t:f.length<=1000000:=by
    have P:=i7 (zs.take i) (fun m H=>hz m (List.mem_of_mem_take H));have R:(zs.take i).length<=10:=by simp;omega
    rw[h.out,List.length_append];omega
   have A:=Hh (show aX (zs.take (i+1))=aX (zs.take i)++aC n from by
    have e:zs[i]=n:=by rw[List.getElem?_eq_getElem c]at d;injection d
    rw[List.take_succ_eq_append_getElem c,e,py])
   clear d;go_wp2_with fail;refine(kK q n (by omega) v' f t _ r.out).mono ?_;rintro e N ⟨rfl,C,o,j⟩;have z:=Hh o;have y:=Hh (g.out.trans j);clear o j F;go_wp2;go_roundw
   case rel=>exact⟨i+1,C,f++aC n,by go_num,c,by rw[h.out,A.out,List.append_assoc],z.out,y.out⟩
   case measure=>simp[intOf];omega
  ·have D:decide (i<zs.length)=false:=by simpa using c
   have x:i=zs.length:=by omega
   subst x;have B:=Hh (show f=L++aX zs by rw[h.out,List.take_length]);clear c;go_wp2;go_end0;rw[<-B.out];exact⟨rfl,v',r.out,g.out⟩
theorem tB(y:Bool)(w:World):Calls Tryz.prog 101 #[.bool y] w fun e w'=>e= .returned (.int .u64 (if y then 1 else 0))/\w=w':=by
 cases y
 all_goals
  go_enter Tryz.func101,Tryz.ntmps101
  go_wp2;go_ret;exact⟨rfl,rfl⟩
theorem km(a:List Nat)(hz:∀n∈a,n<=1099511627776)(hn:a.length<=10)(q:Nat)(v:Value)(L:List UInt8)(hL:L.length<=900000)(wr A:World)(cs:Array Value)(T:TypeId)(hcs:cs=(a.map zv).toArray)(hA:A=wr.alloc (.cells cs T))(hp:cy 5 wr q v L)(s:Value)(hs:s= .slice (some ⟨wr.heap.size,0,none⟩) a.length a.length):
  Calls Tryz.prog 100 #[s, .pointer (some ⟨q,0,none⟩)] A fun e w'=>e= .returned (.tuple #[])/\wD q wr w' L (aX a) (a.length*9):=by
 have c:Below wr.heap.size wr A:=by rw[hA];exact(Below.refl _ _).alloc (Nat.le_refl _) _
 have d:A.heap[wr.heap.size]? =some (.cells (a.map zv).toArray T (0,0)):=by rw[hA,<-hcs];exact heap_alloc_new _ _
 have j:A.heap.size=wr.heap.size+1:=by rw[hA];simp
 have b:=hp.below c;have k:=hp.lt;subst hs;refine(xc q v L hL a hz hn wr.heap.size A b (fun i n l=> ?_) (by omega) (by omega) (fun e=>by have:=(own_lt hp.own e).2;omega)).mono ?_
 ·refine cell_of_row A wr.heap.size i _ _ _ d |>.trans ?_;simp[l]
 ·rintro e w' ⟨he,g,f,h⟩;refine⟨he,g,_,rfl,?_,f,(c.mono (by omega)).trans (h.below b (Nat.le_refl _))⟩;rw[List.length_append];have:=i7 a hz;omega
theorem ut(x:ax)(ia:Option Addr)(ic:Nat)(ms:List af)(ba:Option Addr)(bc:Nat)(hn:ms.length<=100000)(w:World)(h:fo w w.heap.size x ia ic ms ba bc):
  Calls Tryz.prog 60 #[.agg (aF x ia ms.length ic ba bc)] w fun e w'=>((aO x=false/\e= .returned (.tuple #[.slice none 0 0, .bool false]))\/(aO x=true/\∃a c,e= .returned (.tuple #[.slice a (cG x).length c, .bool true])/\OwnBs 5 w' ⟨0,a,(cG x).length,c,cG x⟩))/\Below w.heap.size w w':=by
 obtain⟨W1,hW1⟩:∃W1,W1=w.alloc (.cells (aF x ia ms.length ic ba bc) 32):=⟨_,rfl⟩
 have HW1:=Hh hW1;have hs1:W1.heap.size=w.heap.size+1:=by rw[hW1];simp
 have hb1:Below w.heap.size w W1:=by rw[hW1];exact(Below.refl _ _).alloc (Nat.le_refl _) _
 have hr0:W1.heap[w.heap.size]? =some (.cells (aF x ia ms.length ic ba bc) 32 (0,0)):=by rw[hW1];exact heap_alloc_new w _
 have HR0:=Hh hr0;have HB1:=Hh hb1;have H1:=Hh ((h.below hb1 (Nat.le_refl _)).mono hb1.size);clear hW1 hb1 h hr0;cases hR:aO x with
 | false=>
  have HR:=Hh hR;clear hR;go_enter Tryz.func60,Tryz.ntmps60
  go_wp2_with fail;rw[<-HW1.out];refine(ik x ia ic ms ba bc hn _ H1.out).mono ?_;rintro e d ⟨rfl,I⟩;rw[HR.out];have W:=Hh (HB1.out.trans (I.mono HB1.out.size));clear I;go_wp2;(try rw[Exit.noGoto_ret]);go_ret2;exact⟨.inl ⟨by first | rfl | trivial,rfl⟩,W.out⟩
 | true=>
  obtain⟨K,T,A,U,O,hx,hK1,hK5,hT1,hA1,hU1,hO1,hil9,hbl9,hit9,hus⟩:=mN hR;obtain⟨P,hP⟩:∃P,cG x=P:=⟨_,rfl⟩
  rw[hP];have HR:=Hh hR;have HRI:=Hh hit9;have HUS:=Hh hus;obtain⟨y,hy⟩:∃y,x.y=y:=⟨_,rfl⟩
  have HPL:=Hh (show P=aX [K,T]++(if K=1 then aX [A,U] else if K=2 then aC (yn y) else if K=3 then aX [A,U,O,ms.length]++aw (ms.map af.it) else if K=4 then aC (yn y)++aX [A,O] else aX [A,U]++bN x.b) by
   rw[<-hP,cG,H1.out.eq,H1.out.len,<-hy];rw[hx]
   simp
   norm_cast)
  have hml:=H1.out.len;have hN:ms.length<=16:=by omega
  have HML:=Hh hml;have hlc:aF x ia ms.length ic ba bc=#[.int .i64 K, .int .i64 T, .int .i64 A, .int .i64 U, .int .i64 O, .bool y, .slice ia ms.length ic, .slice ba x.b.length bc]:=by rw[<-hy];rw[hx]
  have HLC:=Hh hlc;clear hR hit9 hus hy hP hml hlc hx;go_enter Tryz.func60,Tryz.ntmps60
  go_wp2_with fail;rw[<-HW1.out];refine(ik x ia ic ms ba bc hn _ H1.out).mono ?_;rintro e d ⟨rfl,I⟩;rw[HR.out];have W:=Hh (HB1.out.trans (I.mono HB1.out.size));have hs3:=I.size;have hr3:d.heap[w.heap.size]? =some (.cells #[.int .i64 K, .int .i64 T, .int .i64 A, .int .i64 U, .int .i64 O, .bool y, .slice ia ms.length ic, .slice ba x.b.length bc] 32 (0,0)):=by rw[I.block w.heap.size (by omega),HR0.out,HLC.out]
  have k:=Hh hr3;have H3:=Hh ((H1.out.below I (Nat.le_refl _)).mono I.size);have HPN:=Hh (cy.new 86 d);obtain⟨w4,hw4⟩:∃w4,w4=d.alloc (.cells #[.slice none 0 0] 86):=⟨_,rfl⟩
  have Hw4:=Hh hw4;have HP4:=Hh (show cy 5 w4 d.heap.size (.slice none 0 0) [] by rw[hw4];exact HPN.out);have hb4:Below d.heap.size d w4:=by rw[hw4];exact(Below.refl _ _).alloc (Nat.le_refl _) _
  have HB4:=Hh hb4;have Z:w4.cell? ⟨w.heap.size,0,none⟩=some (.int .i64 K):=(hb4.cell (p:=⟨w.heap.size,0,none⟩) (show w.heap.size<d.heap.size by omega)).trans (cell_of_row d w.heap.size 0 _ _ _ hr3);have d1:w4.cell? ⟨w.heap.size,1,none⟩=some (.int .i64 T):=(hb4.cell (p:=⟨w.heap.size,1,none⟩) (show w.heap.size<d.heap.size by omega)).trans (cell_of_row d w.heap.size 1 _ _ _ hr3);rw[hw4]at Z d1;clear I hr3 hw4 hb4;obtain⟨v4,hv4⟩:∃v:Value,v= .slice none 0 0:=⟨_,rfl⟩
  obtain⟨l4,hl4⟩:∃l:List UInt8,l= []:=⟨_,rfl⟩
  rw[<-hv4,<-hl4]at HP4;have HL4:=Hh hl4;have hk4:l4.length<=0:=by rw[hl4];simp
  clear hv4 hl4;obtain⟨Y5,hY5⟩:∃Y,Y=w4.alloc (.cells #[.int .i64 K, .int .i64 T] 3):=⟨_,rfl⟩
  go_wp2_with fail;rw[<-Hw4.out,<-hY5];refine(km [K,T] (fun n hn=>by simp at hn;omega) (by simp) d.heap.size v4 l4 (by omega) w4 Y5 _ _ (by simp[zv]) hY5 HP4.out _ (by rw[show w4.heap.size=d.heap.size+1 by rw[Hw4.out];simp];rfl)).mono ?_;rintro e H ⟨rfl,v5,l5,V,hn5,X,hb5⟩;have j:=Hh (HB4.out.trans hb5);have HL5:=Hh (show l5=aX [K,T] by rw[V,HL4.out];(try simp[List.append_assoc]));have hk5:l5.length<=18:=by simp at hn5;omega
  have HP5:=Hh X;clear X hb5 V hn5 hY5 Z d1;have hK:K=1\/K=2\/K=3\/K=4\/K=5:=by omega
  clear hK1 hK5;rcases hK with rfl | rfl | rfl | rfl | rfl
  ·have Z:H.cell? ⟨w.heap.size,0,none⟩=some (.int .i64 1):=(j.out.cell (p:=⟨w.heap.size,0,none⟩) (show w.heap.size<d.heap.size by omega)).trans (cell_of_row d w.heap.size 0 _ _ _ k.out);have d2:H.cell? ⟨w.heap.size,2,none⟩=some (.int .i64 A):=(j.out.cell (p:=⟨w.heap.size,2,none⟩) (show w.heap.size<d.heap.size by omega)).trans (cell_of_row d w.heap.size 2 _ _ _ k.out);have d3:H.cell? ⟨w.heap.size,3,none⟩=some (.int .i64 U):=(j.out.cell (p:=⟨w.heap.size,3,none⟩) (show w.heap.size<d.heap.size by omega)).trans (cell_of_row d w.heap.size 3 _ _ _ k.out);obtain⟨Y6,G⟩:∃Y,Y=H.alloc (.cells #[.int .i64 A, .int .i64 U] 3):=⟨_,rfl⟩
   go_wp2_with fail;rw[<-G];refine(km [A,U] (fun n hn=>by simp at hn;omega) (by simp) d.heap.size v5 l5 (by omega) H Y6 _ _ (by simp[zv]) G HP5.out _ (by simp)).mono ?_;rintro e w6 ⟨rfl,v6,F,r,B,q,s⟩;have z:=Hh (j.out.trans s);have N:=Hh (show F=aX [1,T]++aX [A,U] by rw[r,HL5.out];(try simp[List.append_assoc]));have hk6:F.length<=100:=by simp at B;omega
   have J:=Hh q;clear q s r B G Z d2 d3;have HF:=Hh (show P=F by rw[HPL.out,N.out];simp[List.append_assoc]);have S:=z.out.size;go_wp2_with fail;refine(du d.heap.size v6 F (by omega) _ J.out).mono ?_;rintro e w99 ⟨a9,c9,rfl,g,C,f⟩;have D:=Hh (OwnBs.of_own (t:=0) f g.hbig);have R:=Hh (W.out.trans ((z.out.trans (C.mono S)).mono (by omega)));clear g C f;go_wp2;go_ret2;rw[HF.out];exact⟨.inr ⟨by first | rfl | trivial,a9,c9,rfl,D.out⟩,R.out⟩
  ·have Z:H.cell? ⟨w.heap.size,0,none⟩=some (.int .i64 2):=(j.out.cell (p:=⟨w.heap.size,0,none⟩) (show w.heap.size<d.heap.size by omega)).trans (cell_of_row d w.heap.size 0 _ _ _ k.out);have d5:H.cell? ⟨w.heap.size,5,none⟩=some (.bool y):=(j.out.cell (p:=⟨w.heap.size,5,none⟩) (show w.heap.size<d.heap.size by omega)).trans (cell_of_row d w.heap.size 5 _ _ _ k.out);go_wp2_with fail;refine(tB y _).mono ?_;rintro e w9 ⟨rfl,rfl⟩;rw[show(if y=true then(1:Int) else 0)=((yn y:Nat):Int) by cases y<;>rfl];go_wp2_with fail;refine(dE d.heap.size (yn y) (by cases y<;>simp[yn]) v5 l5 (by omega) _ HP5.out).mono ?_;rintro e w6 ⟨rfl,v6,F,r,B,q,s⟩;have z:=Hh (j.out.trans s);have N:=Hh (show F=aX [2,T]++aC (yn y) by rw[r,HL5.out];(try simp[List.append_assoc]));have hk6:F.length<=100:=by omega
   have J:=Hh q;clear q s r B Z d5;have HF:=Hh (show P=F by rw[HPL.out,N.out];simp[List.append_assoc]);have S:=z.out.size;go_wp2_with fail;refine(du d.heap.size v6 F (by omega) _ J.out).mono ?_;rintro e w99 ⟨a9,c9,rfl,g,C,f⟩;have D:=Hh (OwnBs.of_own (t:=0) f g.hbig);have R:=Hh (W.out.trans ((z.out.trans (C.mono S)).mono (by omega)));clear g C f;go_wp2;go_ret2;rw[HF.out];exact⟨.inr ⟨by first | rfl | trivial,a9,c9,rfl,D.out⟩,R.out⟩
  ·have Z:H.cell? ⟨w.heap.size,0,none⟩=some (.int .i64 3):=(j.out.cell (p:=⟨w.heap.size,0,none⟩) (show w.heap.size<d.heap.size by omega)).trans (cell_of_row d w.heap.size 0 _ _ _ k.out);have d2:H.cell? ⟨w.heap.size,2,none⟩=some (.int .i64 A):=(j.out.cell (p:=⟨w.heap.size,2,none⟩) (show w.heap.size<d.heap.size by omega)).trans (cell_of_row d w.heap.size 2 _ _ _ k.out);have d3:H.cell? ⟨w.heap.size,3,none⟩=some (.int .i64 U):=(j.out.cell (p:=⟨w.heap.size,3,none⟩) (show w.heap.size<d.heap.size by omega)).trans (cell_of_row d w.heap.size 3 _ _ _ k.out);have d4:H.cell? ⟨w.heap.size,4,none⟩=some (.int .i64 O):=(j.out.cell (p:=⟨w.heap.size,4,none⟩) (show w.heap.size<d.heap.size by omega)).trans (cell_of_row d w.heap.size 4 _ _ _ k.out);have d6:H.cell? ⟨w.heap.size,6,none⟩=some (.slice ia ms.length ic):=(j.out.cell (p:=⟨w.heap.size,6,none⟩) (show w.heap.size<d.heap.size by omega)).trans (cell_of_row d w.heap.size 6 _ _ _ k.out);obtain⟨Y6,G⟩:∃Y,Y=H.alloc (.cells #[.int .i64 A, .int .i64 U, .int .i64 O, .int .i64 ms.length] 3):=⟨_,rfl⟩
   go_wp2_with fail;rw[<-G];refine(km [A,U,O,ms.length] (fun n hn=>by simp at hn;omega) (by simp) d.heap.size v5 l5 (by omega) H Y6 _ _ (by simp[zv]) G HP5.out _ (by simp)).mono ?_;rintro e w6 ⟨rfl,v6,F,r,B,q,s⟩;have z:=Hh (j.out.trans s);have N:=Hh (show F=aX [3,T]++aX [A,U,O,ms.length] by rw[r,HL5.out];(try simp[List.append_assoc]));have hk6:F.length<=100:=by simp at B;omega
   have J:=Hh q;clear q s r B G Z d2 d3 d4 d6;have d6:w6.cell? ⟨w.heap.size,6,none⟩=some (.slice ia ms.length ic):=(z.out.cell (p:=⟨w.heap.size,6,none⟩) (show w.heap.size<d.heap.size by omega)).trans (cell_of_row d w.heap.size 6 _ _ _ k.out);go_wp2_with fail;go_loopw [53] (fun iv wr=>∃(i:Nat) (v:Value) (L:List UInt8),iv= .int .i64 i/\i<=ms.length/\L=F++aw ((ms.take i).map af.it)/\cy 5 wr d.heap.size v L/\Below d.heap.size d wr) (fun iv _=>ms.length-(intOf iv).toNat)
   case atStart=>exact⟨0,v6,F,rfl,by omega,by simp[aw],J.out,z.out⟩
   case round=>
    obtain⟨i,v,L,rfl,hi,hL,hp,hbel⟩:=hrel;have HLL:=Hh hL;have HP:=Hh hp;have HB:=Hh hbel;have hwr:=hbel.size;have hbd:(aw ((ms.take i).map af.it)).length<=8300*16:=by
     have h1:=kb ((ms.take i).map af.it) (fun it hit=>HRI.out it (by rw[<-H3.out.eq];obtain⟨m,hm,rfl⟩:=List.mem_map.1 hit;exact List.mem_map_of_mem (List.mem_of_mem_take hm)))
     have h2:((ms.take i).map af.it).length<=16:=by simp;omega
     have h3:((ms.take i).map af.it).length*8300<=16*8300:=Nat.mul_le_mul_right _ h2;omega
    have hLl:L.length<=900000:=by rw[hL,List.length_append];omega
    clear hL hp hbel d6;by_cases hil:i<ms.length
    ·obtain⟨m,hm⟩:∃m,ms[i]? =some m:=⟨_,List.getElem?_eq_getElem hil⟩
     have hmm:=List.mem_of_getElem? hm;have HM:=Hh hm;have HIT:=Hh H3.out.its;obtain⟨b,o,rfl,hb,k0,k1⟩:=HIT.out.cell hm;have hbs:=HIT.out.bs m hmm;have hmn:m.n=m.b.length:=hbs.hlen.symm;have hmi:=(br _).1 (HRI.out m.it (by rw[<-H3.out.eq];exact List.mem_map_of_mem hmm));have hmb:m.b.length<=8192:=hmi.2.2;have hmt:0<=m.t/\m.t<=1099511627776:=⟨hmi.1,hmi.2.1⟩
     rw[hmn]at k1;obtain⟨M,hM⟩:∃M:Nat,m.t=M:=⟨m.t.toNat,by omega⟩
     have hM1:M<=1099511627776:=by omega
     rw[hM]at k0;have c0:wr.cell? ⟨b,o+i*2,none⟩=some (.int .i64 M):=(HB.out.cell (p:=⟨b,o+i*2,none⟩) hb).trans k0;have c1:wr.cell? ⟨b,o+i*2+1,none⟩=some (.slice m.a m.b.length m.c):=(HB.out.cell (p:=⟨b,o+(i*2+1),none⟩) hb).trans k1;have HBM:=Hh (show aM d d.heap.size m.a m.b.length m.c m.b from by rw[<-hmn];exact hbs);have HMT:=Hh (show m.t.toNat=M by omega);have tk:decide ((i:Int)<(ms.length:Int))=true:=by simpa using hil
     have hi0:(0:Int)<=(i:Int):=by omega
     have hi1:(i:Int)<(ms.length:Int):=by omega
     obtain⟨E,hE⟩:∃E,E=wr.alloc (.cells #[.int .i64 M, .slice m.a m.b.length m.c] 40):=⟨_,rfl⟩
     have hbA:Below wr.heap.size wr E:=by rw[hE];exact(Below.refl _ _).alloc (Nat.le_refl _) _
     have hrA:E.heap[wr.heap.size]? =some (.cells #[.int .i64 M, .slice m.a m.b.length m.c] 40 (0,0)):=by rw[hE];exact heap_alloc_new _ _
     have HA:=Hh hE;have HRA:=Hh hrA;have HBA:=Hh (HB.out.trans (hbA.mono hwr));have HPA:=Hh (HP.out.below hbA);have hsA:E.heap.size=wr.heap.size+1:=by rw[hE];simp
     have hqr:d.heap.size<wr.heap.size:=HP.out.lt;clear k0 k1 hm hmm hbs hmn hM hE hbA hrA hmi hmt;go_wp2_with fail;rw[<-HA.out];refine(kK d.heap.size M (by omega) v L (by omega) _ HPA.out).mono ?_;rintro e w15 ⟨rfl,v15,X,ht5⟩;obtain⟨l15,V⟩:∃l5,l5=L++aC M:=⟨_,rfl⟩
     have hn5:l15.length<=900009:=by rw[V,List.length_append];have:=ck (show M<18446744073709551616 by omega);omega
     rw[<-V]at X;have hr5:=(ht5.block wr.heap.size (by omega) (by omega) (fun e=>by have:=(own_lt HP.out.own e).2;omega)).trans HRA.out;have c5:w15.cell? ⟨wr.heap.size,1,none⟩=some (.slice m.a m.b.length m.c):=cell_of_row w15 wr.heap.size 1 _ _ _ hr5;have HB15:=Hh (HBA.out.trans (ht5.below HPA.out (Nat.le_refl _)));have HL15:=Hh V;have HP15:=Hh X;have HBM5:=Hh (HBM.out.below HB15.out (Nat.le_refl _));clear V X ht5 hr5 c0 c1;go_wp2_with fail;refine(i9 d.heap.size v15 l15 (by omega) m.b m.a m.b.length m.c (by omega) _ HBM5.out HP15.out).mono ?_;rintro e w16 ⟨rfl,v16,l16,r,B,q,s⟩;have HB16:=Hh (HB15.out.trans s);have HL16:=Hh (show l16=F++aw ((ms.take (i+1)).map af.it) by rw[r,HL15.out,HLL.out,dW HM.out,HMT.out];simp[List.append_assoc])
     have HP16:=Hh q;clear r B q s c5;go_wp2;go_roundw
     case rel=>exact⟨i+1,v16,l16,by go_num,hil,HL16.out,HP16.out,HB16.out⟩
     case measure=>simp[intOf];omega
    ·have tk:decide ((i:Int)<(ms.length:Int))=false:=by simpa using hil
     have hie:i=ms.length:=by omega
     subst hie;have HF:=Hh (show P=L by rw[HPL.out,HLL.out,N.out,List.take_length];simp[List.append_assoc]);clear hil;go_wp2_with fail;refine(du d.heap.size v L (by omega) _ HP.out).mono ?_;rintro e w99 ⟨a9,c9,rfl,g,C,f⟩;have D:=Hh (OwnBs.of_own (t:=0) f g.hbig);have R:=Hh (W.out.trans ((HB.out.trans (C.mono hwr)).mono (by omega)));clear g C f;go_wp2;go_ret2;rw[HF.out];exact⟨.inr ⟨by first | rfl | trivial,a9,c9,rfl,D.out⟩,R.out⟩
  ·have Z:H.cell? ⟨w.heap.size,0,none⟩=some (.int .i64 4):=(j.out.cell (p:=⟨w.heap.size,0,none⟩) (show w.heap.size<d.heap.size by omega)).trans (cell_of_row d w.heap.size 0 _ _ _ k.out);have d5:H.cell? ⟨w.heap.size,5,none⟩=some (.bool y):=(j.out.cell (p:=⟨w.heap.size,5,none⟩) (show w.heap.size<d.heap.size by omega)).trans (cell_of_row d w.heap.size 5 _ _ _ k.out);go_wp2_with fail;refine(tB y _).mono ?_;rintro e w9 ⟨rfl,rfl⟩;rw[show(if y=true then(1:Int) else 0)=((yn y:Nat):Int) by cases y<;>rfl];go_wp2_with fail;refine(dE d.heap.size (yn y) (by cases y<;>simp[yn]) v5 l5 (by omega) _ HP5.out).mono ?_;rintro e w6 ⟨rfl,v6,F,r,B,q,s⟩;have z:=Hh (j.out.trans s);have N:=Hh (show F=aX [4,T]++aC (yn y) by rw[r,HL5.out];(try simp[List.append_assoc]));have hk6:F.length<=100:=by omega
   have J:=Hh q;clear q s r B Z d5;have d2:w6.cell? ⟨w.heap.size,2,none⟩=some (.int .i64 A):=(z.out.cell (p:=⟨w.heap.size,2,none⟩) (show w.heap.size<d.heap.size by omega)).trans (cell_of_row d w.heap.size 2 _ _ _ k.out);have d4:w6.cell? ⟨w.heap.size,4,none⟩=some (.int .i64 O):=(z.out.cell (p:=⟨w.heap.size,4,none⟩) (show w.heap.size<d.heap.size by omega)).trans (cell_of_row d w.heap.size 4 _ _ _ k.out);obtain⟨Y7,hY7⟩:∃Y,Y=w6.alloc (.cells #[.int .i64 A, .int .i64 O] 3):=⟨_,rfl⟩
   go_wp2_with fail;rw[<-hY7];refine(km [A,O] (fun n hn=>by simp at hn;omega) (by simp) d.heap.size v6 F (by omega) w6 Y7 _ _ (by simp[zv]) hY7 J.out _ (by simp)).mono ?_;rintro e w7 ⟨rfl,v7,l7,hl7,hn7,hp7,hb7⟩;have HB7:=Hh (z.out.trans hb7);have HL7:=Hh (show l7=aX [4,T]++aC (yn y)++aX [A,O] by rw[hl7,N.out];(try simp[List.append_assoc]));have hk7:l7.length<=200:=by simp at hn7;omega
   have HP7:=Hh hp7;clear hp7 hb7 hl7 hn7 hY7 d2 d4;have HF:=Hh (show P=l7 by rw[HPL.out,HL7.out];simp[List.append_assoc]);have S:=HB7.out.size;go_wp2_with fail;refine(du d.heap.size v7 l7 (by omega) _ HP7.out).mono ?_;rintro e w99 ⟨a9,c9,rfl,g,C,f⟩;have D:=Hh (OwnBs.of_own (t:=0) f g.hbig);have R:=Hh (W.out.trans ((HB7.out.trans (C.mono S)).mono (by omega)));clear g C f;go_wp2;go_ret2;rw[HF.out];exact⟨.inr ⟨by first | rfl | trivial,a9,c9,rfl,D.out⟩,R.out⟩
  ·have Z:H.cell? ⟨w.heap.size,0,none⟩=some (.int .i64 5):=(j.out.cell (p:=⟨w.heap.size,0,none⟩) (show w.heap.size<d.heap.size by omega)).trans (cell_of_row d w.heap.size 0 _ _ _ k.out);have d2:H.cell? ⟨w.heap.size,2,none⟩=some (.int .i64 A):=(j.out.cell (p:=⟨w.heap.size,2,none⟩) (show w.heap.size<d.heap.size by omega)).trans (cell_of_row d w.heap.size 2 _ _ _ k.out);have d3:H.cell? ⟨w.heap.size,3,none⟩=some (.int .i64 U):=(j.out.cell (p:=⟨w.heap.size,3,none⟩) (show w.heap.size<d.heap.size by omega)).trans (cell_of_row d w.heap.size 3 _ _ _ k.out);obtain⟨Y6,G⟩:∃Y,Y=H.alloc (.cells #[.int .i64 A, .int .i64 U] 3):=⟨_,rfl⟩
   go_wp2_with fail;rw[<-G];refine(km [A,U] (fun n hn=>by simp at hn;omega) (by simp) d.heap.size v5 l5 (by omega) H Y6 _ _ (by simp[zv]) G HP5.out _ (by simp)).mono ?_;rintro e w6 ⟨rfl,v6,F,r,B,q,s⟩;have z:=Hh (j.out.trans s);have N:=Hh (show F=aX [5,T]++aX [A,U] by rw[r,HL5.out];(try simp[List.append_assoc]));have hk6:F.length<=100:=by simp at B;omega
   have J:=Hh q;clear q s r B G Z d2 d3;have d7:w6.cell? ⟨w.heap.size,7,none⟩=some (.slice ba x.b.length bc):=(z.out.cell (p:=⟨w.heap.size,7,none⟩) (show w.heap.size<d.heap.size by omega)).trans (cell_of_row d w.heap.size 7 _ _ _ k.out);have HTX7:=Hh (show aM w6 d.heap.size ba x.b.length bc x.b from H3.out.b.below z.out (Nat.le_refl _));go_wp2_with fail;refine(i9 d.heap.size v6 F (by omega) x.b ba x.b.length bc (by omega) _ HTX7.out J.out).mono ?_;rintro e w7 ⟨rfl,v7,l7,hl7,hn7,hp7,hb7⟩;have HB7:=Hh (z.out.trans hb7);have HL7:=Hh (show l7=aX [5,T]++aX [A,U]++bN x.b by rw[hl7,N.out];(try simp[List.append_assoc]));have hk7:l7.length<=80000:=by omega
   have HP7:=Hh hp7;clear hp7 hb7 hl7 hn7 d7;have HF:=Hh (show P=l7 by rw[HPL.out,HL7.out];simp[List.append_assoc]);have S:=HB7.out.size;go_wp2_with fail;refine(du d.heap.size v7 l7 (by omega) _ HP7.out).mono ?_;rintro e w99 ⟨a9,c9,rfl,g,C,f⟩;have D:=Hh (OwnBs.of_own (t:=0) f g.hbig);have R:=Hh (W.out.trans ((HB7.out.trans (C.mono S)).mono (by omega)));clear g C f;go_wp2;go_ret2;rw[HF.out];exact⟨.inr ⟨by first | rfl | trivial,a9,c9,rfl,D.out⟩,R.out⟩
end Go.Proofs.YtogcnfhmcpkdcaaGreat
