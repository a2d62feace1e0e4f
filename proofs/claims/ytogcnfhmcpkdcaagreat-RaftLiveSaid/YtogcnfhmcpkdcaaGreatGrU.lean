/-
Walks of a group: what is read (term).
-/
import Derived.Test.YtogcnfhmcpkdcaaGreatGrM
import Derived.Test.YtogcnfhmcpkdcaaGreatRaftNA
import Derived.Test.YtogcnfhmcpkdcaaGreatLine9
import Derived.Test.YtogcnfhmcpkdcaaGreatLineM8
set_option maxHeartbeats 2000000
set_option maxRecDepth 100000
namespace Go.Proofs.YtogcnfhmcpkdcaaGreat
open Go.RowKit
set_option linter.unusedVariables false
set_option linter.unusedSimpArgs false
section
variable {w w' : World} {B g c : Nat} {G : ac} {M : bG}
theorem aA.cl(h:aA w B g c G M){i:Nat}(a:i<8):w.cell? ⟨g,i,none⟩=some (aY G M i):=by
 rw[cell_of_row _ _ i _ _ _ h.row];have e:i=0\/i=1\/i=2\/i=3\/i=4\/i=5\/i=6\/i=7:=by omega
 rcases e with rfl | rfl | rfl | rfl | rfl | rfl | rfl | rfl<;>rfl
theorem aA.cr(h:aA w B g c G M):w.cell? ⟨g,8,none⟩=some (.bool G.right):=by rw[cell_of_row _ _ 8 _ _ _ h.row];rfl
theorem aA.f(h:aA w B g c G M)(i:Nat):w.frozen? ⟨g,i,none⟩=false:=frozen_of_row _ _ _ _ _ h.row
theorem aA.at_(h:aA w B g c G M){i:Nat}(k:i<8){j:Nat}(e:j<bR G M i*rT i):∃b,M.ra i=some ⟨b,0,none⟩/\w.cell? ⟨b,j,none⟩=(cu G M i)[j]? /\w.frozen? ⟨b,j,none⟩=false/\b<w.heap.size:=by
 have l:0<bR G M i:=by
  rcases Nat.eq_zero_or_pos (bR G M i) with f | f
  ·rw[f]at e;simp at e
  ·exact f
 obtain⟨b,m,d⟩:=lX h k l;have a:=h.rows i k;rw[d]at a;refine⟨b,?_,a.cellAt j e,a.frozenAt j,(own_lt a rfl).2⟩;unfold aY at d;injection d with e1
theorem aA.ptr(h:aA w B g c G M){i:Nat}{q:Nat×ay}(a:M.ps[i]? =some q):∃b,M.ra 0=some ⟨b,0,none⟩/\w.cell? ⟨b,i,none⟩=some (.pointer (some ⟨q.1,0,none⟩))/\b<w.heap.size:=by have k:=(List.getElem?_eq_some_iff.1 a).1;obtain⟨b,f,e,_,d⟩:=h.at_ (i:=0) (by omega) (j:=i) (by show i<M.ps.length*1;omega);refine⟨b,f,?_,d⟩;rw[e];show(M.ps.map i8)[i]? =_;rw[List.getElem?_map,a];rfl
def fj:List aa->Int->Int
 | [],t=>t
 | R::l,t=>fj l (max t R.bt)
def ac.term(G:ac):Int:=fj G.rs 0
theorem sd(l:List aa)(R:aa)(t:Int):fj (l++ [R]) t=max (fj l t) R.bt:=by
 induction l generalizing t with
 | nil=>rfl
 | cons x l ih=>exact ih _
theorem xf(h:aA w B g c G M)(hn:M.ps.length<=7):Calls Tryz.prog 61 #[.pointer (some ⟨g,0,none⟩)] w fun e w'=>e= .returned (.int .i64 G.term)/\w'=w:=by
 have c0:w.cell? ⟨g,0,none⟩=some (.slice (M.ra 0) M.ps.length (M.rc 0)):=h.cl (i:=0) (by omega);have H:=Hh h;clear h;go_enter Tryz.func61,Tryz.ntmps61
 go_wp2_with fail;obtain⟨o,s⟩:∃o:World,o=w:=⟨_,rfl⟩
 go_loopw [3,4] (fun p j wr=>∃i:Nat,j= .int .i64 i/\i<=M.ps.length/\p= .int .i64 (fj (G.rs.take i) 0)/\wr=w) (fun _ j _=>M.ps.length-(intOf j).toNat)
 case atStart=>exact⟨0,rfl,by omega,rfl,rfl⟩
 case round=>
  obtain⟨i,rfl,A,rfl,rfl⟩:=hrel;by_cases a:i<M.ps.length
  ·have r:decide ((i:Int)<(M.ps.length:Int))=true:=decide_eq_true (by omega);have f:decide (i<M.ps.length)=true:=decide_eq_true a;obtain⟨q,k⟩:∃q,M.ps[i]? =some q:=⟨_,List.getElem?_eq_getElem a⟩
   obtain⟨R,l⟩:∃R,G.rs[i]? =some R:=⟨_,List.getElem?_eq_getElem (by rw[<-H.out.rl];exact a)⟩
   obtain⟨b,d,y,x⟩:=H.out.ptr k;rw[d]at c0;have v:(0:Int)<=(i:Int):=by omega
   have t:(i:Int)<(M.ps.length:Int):=by omega
   have m:=Hh (H.out.rf i R q l k);have n:=Hh (show fj (G.rs.take (i+1)) 0=max (fj (G.rs.take i) 0) R.bt by rw[List.take_add_one,l];exact sd _ _ _)
   clear k l d;go_wp2_with fail;refine(gZ m.out).mono ?_;rintro e z ⟨rfl,rfl⟩;go_wp2;go_roundw
   case rel=>exact⟨i+1,by go_num,by omega,by rw[n.out],by first | rfl | trivial⟩
   case measure=>simp[intOf];omega
  ·have r:decide ((i:Int)<(M.ps.length:Int))=false:=decide_eq_false (by omega);have f:decide (i<M.ps.length)=false:=decide_eq_false a;have HE:=Hh (show fj (G.rs.take i) 0=G.term by rw[List.take_of_length_le (by rw[<-H.out.rl];omega)];rfl);go_wp2;go_ret;rw[HE.out];exact⟨rfl,rfl⟩
end
section
variable {w w' w1 : World} {B g c : Nat} {G : ac} {M : bG}
theorem aA.rowStays(h:aA w B g c G M){i:Nat}(a:i<8)(hg:w.grownBy w1 (aY G M i).ownBlock):w1.heap[g]? =some (.cells (ce G M) 67 (0,0)):=by refine(hg.block g (h.lt (x:= .g) rfl) (fun e=> ?_)).trans h.row;unfold aY at e;rw[al]at e;have:=h.dis .g (.row i) g rfl ⟨a,e.symm⟩;cases this
theorem p7{j:Nat}(a:j<8):(ce G M)[j]? =some (aY G M j):=by
 have e:j=0\/j=1\/j=2\/j=3\/j=4\/j=5\/j=6\/j=7:=by omega
 rcases e with rfl | rfl | rfl | rfl | rfl | rfl | rfl | rfl<;>rfl
theorem aA.cell1(h:aA w B g c G M){i:Nat}(b:i<8)(hg:w.grownBy w1 (aY G M i).ownBlock):w1.cell? ⟨g,i,none⟩=some (aY G M i)/\w1.frozen? ⟨g,i,none⟩=false:=by have a:=h.rowStays b hg;exact⟨by rw[cell_of_row _ _ i _ _ _ a];exact p7 b,frozen_of_row _ _ _ _ _ a⟩
theorem aA.grewBelow(h:aA w B g c G M){i:Nat}(a:i<8)(hg:w.grownBy w1 (aY G M i).ownBlock)(j:Nat)(v:Value):Below B w (w1.setCell ⟨g,j,none⟩ v):=by have b:B<=g:=h.inn .g g rfl;refine⟨hg.os,hg.tape,hg.output,by simpa using hg.size,fun k d=> ?_⟩;rw[Below.heap_setCell _ _ _ k (by show k≠g;omega)];refine hg.block k (by have:=h.bs;omega) (fun e=> ?_);unfold aY at e;rw[al]at e;have:=h.inn (.row i) k ⟨a,e.symm⟩;omega
structure zj (V:World) (B g c:Nat) (G:ac) (M:bG) (L:List UInt8) (U:World) (n:Nat) (a:Option Addr) (k:Nat):Prop where
 gr:aA U B g c G M
 it:SlAt U U.heap.size 1 (some ⟨n,0,none⟩) 1 1 [.slice a L.length k]
 by_ :cS U a k L
 bel:Below V.heap.size V U
def ac.madeN(n i:Nat):ac:=⟨(List.range i).map fun(j:Nat)=>aa.new (j:Int) n,(List.range i).map fun(j:Nat)=>(aa.new (j:Int) n).head,(List.range i).map fun _=> [],(List.range i).map fun _=>0,[],[],[],[],true⟩
def ac.made(n:Nat):ac:=ac.madeN n n
theorem sf(n i:Nat):ac.madeN n (i+1)={ ac.madeN n i with rs:=(ac.madeN n i).rs++ [aa.new (i:Int) n],hd:=(ac.madeN n i).hd++ [(aa.new (i:Int) n).head],nt:=(ac.madeN n i).nt++ [[]],ats:=(ac.madeN n i).ats++ [0] }:=by simp[ac.madeN,List.range_succ]
theorem y7:(Tryz.prog.info? 25).map (fun i=>(i.zero,i.size,i.bytes))=some (some (.pointer none),1,8):=by kernel_rfl
theorem tD:(Tryz.prog.info? 3).map (fun i=>(i.zero,i.size,i.bytes))=some (some (.int .i64 0),1,8):=by kernel_rfl
theorem qV:(Tryz.prog.info? 29).map (fun i=>(i.zero,i.size,i.bytes))=some (some (.slice none 0 0),1,24):=by kernel_rfl
theorem xh(n:Nat)(h1:1<=n)(h7:n<=7)(w:World):Calls Tryz.prog 23 #[.int .i64 n] w fun e w'=>∃g M,e= .returned (.pointer (some ⟨g,0,none⟩))/\aA w' w.heap.size g 0 (ac.made n) M/\Below w.heap.size w w':=by
 obtain⟨iP,jP,jP0,jP1,jP2⟩:=info_parts y7;obtain⟨iI,jI,jI0,jI1,jI2⟩:=info_parts tD;obtain⟨iB,jB,jB0,jB1,jB2⟩:=info_parts gN;obtain⟨iS,jS,jS0,jS1,jS2⟩:=info_parts qV;have HN:=Hh (show aA (w.alloc (.cells (ce ac.none bG.none) 67)) w.heap.size w.heap.size 0 (ac.madeN n 0) bG.none from yf w 0);have HB0:=Hh (show Below w.heap.size w (w.alloc (.cells (ce ac.none bG.none) 67)) from(Below.refl _ _).alloc (Nat.le_refl _) _);go_enter Tryz.func23,Tryz.ntmps23
 go_wp2_with fail;obtain⟨a,hwo⟩:∃a:World,a=w:=⟨_,rfl⟩
 rw[<-hwo]at HN HB0;have HWO:=Hh hwo;clear hwo;go_loopw [4] (fun iv wr=>∃(i:Nat) (M:bG),iv= .int .i64 i/\i<=n/\aA wr a.heap.size a.heap.size 0 (ac.madeN n i) M/\Below a.heap.size a wr) (fun iv _=>n-(intOf iv).toNat)
 case atStart=>exact⟨0,bG.none,rfl,by omega,by rw[<-HWO.out];exact HN.out,by rw[<-HWO.out];exact HB0.out⟩
 case round=>
  obtain⟨i,M,rfl,hi,hgr,hbe⟩:=hrel;have HG:=Hh hgr;have HBE:=Hh hbe;clear hgr hbe;rw[<-HWO.out];by_cases hil:i<n
  ·have t1:decide ((i:Int)<(n:Int))=true:=decide_eq_true (by omega);have t1n:decide (i<n)=true:=decide_eq_true hil;go_wp2_with fail;refine(i6 (i:Int) (n:Int) (by omega) (by omega) (by omega) (by omega) _).mono ?_;rintro e w2 ⟨p,rfl,N,A⟩;have HM:=Hh A;have hs2:=A.2.1.size;have hpl:=A.1.lt;clear A;obtain⟨G,hG⟩:∃G,G=ac.madeN n i:=⟨_,rfl⟩
   have HGQ:=Hh hG;rw[<-hG]at HG;obtain⟨R,hR⟩:∃R,R=aa.new (i:Int) n:=⟨_,rfl⟩
   have HRQ:=Hh hR;rw[<-hR]at HM;have C:=Hh (show M.ps.length=i/\M.hs.length=i/\M.ts.length=i/\G.ats.length=i by
    refine⟨by rw[HG.out.rl,hG];simp[ac.madeN],?_,?_,by rw[hG];simp[ac.madeN]⟩
    ·have:=congrArg List.length HG.out.ct.hq;rw[hG]at this;simpa[ac.madeN] using this
    ·have:=congrArg List.length HG.out.ct.tq;rw[hG]at this;simpa[ac.madeN] using this)
   have HOK:=Hh (show R.Ok by rw[hR];exact nf (by omega) (by omega) (by omega) (by omega));have HSZ:=Hh (show R.line.put.length<=900000/\R.state.length<=70000 by rw[hR];exact⟨by show(ae.put ⟨0,0,[]⟩).length<=900000;decide,by show([]:List UInt8).length<=70000;decide⟩);have HNP:=Hh (show N.ps= [] by have h9:=HM.out.1.po.q;rw[hR]at h9;exact List.map_eq_nil_iff.1 h9)
   have HFR:=Hh (show ∀k,N.own p k->a.heap.size<=k/\∀y,¬M.own a.heap.size y k from fun k hk=>HG.out.free (HM.out.2.2 k hk));clear hG hR;obtain⟨X,hX⟩:∃X,X=w2.alloc (.cells #[.pointer (some ⟨p,0,none⟩)] 25):=⟨_,rfl⟩
   have hbX:Below w2.heap.size w2 X:=by rw[hX];exact(Below.refl _ _).alloc (Nat.le_refl _) _
   have HG2:=Hh (HG.out.below HM.out.2.1);have HGX:=Hh (HG2.out.below hbX);have HRX:=Hh (HM.out.1.below hbX);have HSX:=Hh (show SlAt X (w2.heap.size+1) 1 (some ⟨w2.heap.size,0,none⟩) 1 1 [.pointer (some ⟨p,0,none⟩)] by rw[hX];exact dr w2 _ _);have HBX:=Hh (hbX);have hx:=hbX.size;have hxs:X.heap.size=w2.heap.size+1:=by rw[hX];simp
   clear hbX;have c0:w2.cell? ⟨a.heap.size,0,none⟩=some (.slice (M.ra 0) M.ps.length (M.rc 0)):=HG2.out.cl (i:=0) (by omega);go_wp2_with (at_builtin;rw[<-hX];refine bU _ rfl _ _ 61 rfl 0 25 iP (.pointer none) 1 8 Tryz.underlying61 jP jP0 jP1 jP2 rfl (by decide) _ _ _ rfl (HGX.out.rows 0 (by omega)) (w2.heap.size+1) (some ⟨w2.heap.size,0,none⟩) 1 1 [.pointer (some ⟨p,0,none⟩)] rfl HSX.out (ie rfl) ?c1 ?c2 ?c3 ?_)
   case c1=>show M.ps.length+1<=maxLen;have:=C.out.1;unfold maxLen;omega
   case c2=>show(M.ps.length+1)*8<=_;have:=C.out.1;omega
   case c3=>exact Nat.zero_le _
   intro a7 c7 w7 hown7 d hat7;rw[<-hX]at d;rw[<-hxs]at hat7;have o:=HGX.out.addRaft HRX.out HNP.out HFR.out hown7 d hat7;have hs7:=d.size;obtain⟨d0,e0⟩:=HGX.out.cell1 (i:=0) (by omega) d;have d0:w7.cell? ⟨a.heap.size,0,none⟩=some (.slice (M.ra 0) M.ps.length (M.rc 0)):=d0;clear c0 hX;obtain⟨H,hW8⟩:∃H,H=w7.setCell ⟨a.heap.size,0,none⟩ (.slice a7 (bR G M 0+1) c7):=⟨_,rfl⟩
   have HB8:=Hh (show Below a.heap.size a H from HBE.out.trans ((HM.out.2.1.trans (HBX.out.mono hs2)).mono HBE.out.size |>.trans (by rw[hW8];exact HGX.out.grewBelow (i:=0) (by omega) d 0 _)));have t:=Hh o;rw[show(M.ps.length:Nat)=bR G M 0 from rfl,<-hW8]at t;clear o hown7 d hat7;have hs8:H.heap.size=w7.heap.size:=by rw[hW8];simp
   obtain⟨f,hM1⟩:∃f:bG,f={ M with ra:=fB M.ra 0 a7,rc:=fB M.rc 0 c7,ps:=M.ps++ [(p,N)] }:=⟨_,rfl⟩
   obtain⟨G1,hG1⟩:∃G1:ac,G1={ G with rs:=G.rs++ [R] }:=⟨_,rfl⟩
   rw[<-hM1,<-hG1]at t;have HM1:=Hh (show f.hs=M.hs/\f.ts=M.ts/\f.ra 1=M.ra 1/\f.rc 1=M.rc 1 by rw[hM1];exact⟨rfl,rfl,rfl,rfl⟩);have HR8:=Hh (show ao H p R N by
    refine t.out.rf M.ps.length R (p,N) ?_ ?_
    ·rw[hG1,C.out.1];have:=HG.out.rl;rw[C.out.1]at this;show(G.rs++ [R])[i]? =_;rw[eg,if_pos this]
    ·rw[hM1];show(M.ps++ [(p,N)])[M.ps.length]? =_;rw[eg,if_pos rfl])
   have HGQ1:=Hh (hG1);clear hM1 hG1;go_wp2_with fail;rw[<-hW8];clear hW8;refine fx (S:=PZ a.heap.size) ?_;have hdr:Below H.heap.size H H.drew:=(Below.refl _ _).drew;have HG9:=Hh (t.out.below hdr);have HR9:=Hh (HR8.out.below hdr);have P:PZ a.heap.size H.drew:=⟨HG9.out.lt (x:= .g) rfl⟩
   refine hT 0 28 P ?_;refine hT 1 29 P ?_;refine hT 5 33 P ?_;refine hT 2 30 P ?_;refine hT 3 31 P ?_;have HS0:=Hh P;clear P;apply wR (fun U n a4 c4=>zj H a.heap.size a.heap.size 0 G1 f R.head U n a4 c4);intro hway;have HHD:=Hh (fun(V:World) (hv:ao V p R N)=>mS p R N HOK.out.bt0 HOK.out.bt1 HOK.out.bf0 HOK.out.bf1 HOK.out.line HSZ.out.1 HSZ.out.2 V hv);refine nU 4 6 ?_ ?_
   ·have p4:H.drew.cell? ⟨a.heap.size,1,none⟩=some (.slice (f.ra 1) f.hs.length (f.rc 1)):=HG9.out.cl (i:=1) (by omega);go_simp;clear p4;refine⟨HS0.out,?_⟩;refine bp 6 ?_;go_simp;refine(HHD.out _ HR9.out).mono ?_;rintro e B ⟨a4,c4,rfl,D,v, -⟩;have O:PZ a.heap.size B:=⟨Nat.lt_of_lt_of_le HS0.out.s v.size⟩
    obtain⟨U,hU⟩:∃U,U=B.alloc (.cells #[.slice a4 R.head.length c4] 27):=⟨_,rfl⟩
    have I:Below B.heap.size B U:=by rw[hU];exact(Below.refl _ _).alloc (Nat.le_refl _) _
    have m:Below H.heap.size H U:=hdr.trans (v.trans (I.mono v.size));have T:zj H a.heap.size a.heap.size 0 G1 f R.head U B.heap.size a4 c4:=by refine⟨t.out.below m,?_,OwnBs.below D I,m⟩;rw[show U.heap.size=B.heap.size+1 by rw[hU];simp,hU];exact dr B _ _
    have hSU:PZ a.heap.size U:=⟨T.gr.lt (x:= .g) rfl⟩
    have HU:=Hh hU;have j:=Hh T;have HSU:=Hh hSU;have HS9:=Hh O;clear v D hU I m T hSU;refine⟨O,?_⟩;clear O;refine bp 7 ?_;go_simp;rw[<-HU.out];refine⟨HSU.out,?_⟩;have l:=j.out;generalize B.heap.size=n at l ⊢;exact hway U n a4 c4 l
   ·go_simp;refine(HHD.out _ HR9.out).mono ?_;rintro e B ⟨a4,c4,rfl,D,v, -⟩;have O:PZ a.heap.size B:=⟨Nat.lt_of_lt_of_le HS0.out.s v.size⟩
    obtain⟨U,hU⟩:∃U,U=B.alloc (.cells #[.slice a4 R.head.length c4] 27):=⟨_,rfl⟩
    have I:Below B.heap.size B U:=by rw[hU];exact(Below.refl _ _).alloc (Nat.le_refl _) _
    have m:Below H.heap.size H U:=hdr.trans (v.trans (I.mono v.size));have T:zj H a.heap.size a.heap.size 0 G1 f R.head U B.heap.size a4 c4:=by refine⟨t.out.below m,?_,OwnBs.below D I,m⟩;rw[show U.heap.size=B.heap.size+1 by rw[hU];simp,hU];exact dr B _ _
    have hSU:PZ a.heap.size U:=⟨T.gr.lt (x:= .g) rfl⟩
    have HP9:=Hh (t.out.below (hdr.trans v));have HU:=Hh hU;have j:=Hh T;have HSU:=Hh hSU;have HS9:=Hh O;clear v D hU I m T hSU;refine⟨O,?_⟩;clear O;refine nU 4 7 ?_ ?_
    ·have p4:B.cell? ⟨a.heap.size,1,none⟩=some (.slice (f.ra 1) f.hs.length (f.rc 1)):=HP9.out.cl (i:=1) (by omega);go_simp;clear p4;refine⟨HS9.out,?_⟩;refine bp 7 ?_;go_simp;rw[<-HU.out];refine⟨HSU.out,?_⟩;have l:=j.out;generalize B.heap.size=n at l ⊢;exact hway U n a4 c4 l
    ·go_simp;rw[<-HU.out];refine⟨HSU.out,?_⟩;refine bp 4 ?_;have p4:U.cell? ⟨a.heap.size,1,none⟩=some (.slice (f.ra 1) f.hs.length (f.rc 1)):=j.out.gr.cl (i:=1) (by omega);go_simp;clear p4;refine⟨HSU.out,?_⟩;have l:=j.out;generalize B.heap.size=n at l ⊢;exact hway U n a4 c4 l
   intro U nn a4 c4 l;have j:=Hh l;clear l;have HLN:=Hh (show f.hs.length<=7/\f.ts.length<=7 by rw[HM1.out.1,HM1.out.2.1,C.out.2.1,C.out.2.2.1];omega);refine bp 8 ?_;refine aS U (.tmp 32) (.tmp 35) 29 rfl 0 27 iB (.slice none 0 0) 1 24 Tryz.underlying29 jB jB0 jB1 jB2 rfl (by decide) (.slice (f.ra 1) f.hs.length (f.rc 1)) f.hs.length (f.hs.map aV.cell) rfl (j.out.gr.rows 1 (by omega)) U.heap.size (some ⟨nn,0,none⟩) 1 1 [.slice a4 R.head.length c4] rfl j.out.it (by intro u hu;simp at hu;subst hu;rfl) (by have:=HLN.out.1;unfold maxLen;omega) (by have:=HLN.out.1;omega) (Nat.zero_le _) ?_;intro a11 c11 W11 o11 g11 hat11;have o:=j.out.gr.addHead ⟨a4,c4,R.head⟩ j.out.by_ o11 g11 hat11;obtain⟨p2,f2⟩:=j.out.gr.cell1 (i:=1) (by omega) g11;have a2:PZ a.heap.size W11:=⟨Nat.lt_of_lt_of_le (j.out.gr.lt (x:= .g) rfl) g11.size⟩
   refine⟨a2,?_⟩;go_simp;refine hT 9 37 a2 ?_;refine hT 10 38 a2 ?_;refine bp 11 ?_;refine aj 29 (.tmp 38) (.tmp 36) rfl a.heap.size 1 (.slice a11 (f.hs.length+1) c11) _ rfl rfl rfl gM p2 f2 ?_;obtain⟨h,hW12⟩:∃h,h=W11.setCell ⟨a.heap.size,1,none⟩ (.slice a11 (f.hs.length+1) c11):=⟨_,rfl⟩
   rw[<-hW12]at o ⊢;have HG12:=Hh o;have hS12:PZ a.heap.size h:=⟨o.lt (x:= .g) rfl⟩
   refine⟨hS12,dc ?_⟩;have HB12:=Hh (show Below a.heap.size a h from HB8.out.trans ((j.out.bel.mono HB8.out.size).trans (by rw[hW12];exact j.out.gr.grewBelow (i:=1) (by omega) g11 1 _)));clear a2 hS12 p2 f2 o hW12 o11 g11 hat11 hdr;obtain⟨z,hM2⟩:∃z:bG,z={ f with ra:=fB f.ra 1 a11,rc:=fB f.rc 1 c11,hs:=f.hs++ [⟨a4,c4,R.head⟩] }:=⟨_,rfl⟩
   obtain⟨G2,hG2⟩:∃G2:ac,G2={ G1 with hd:=G1.hd++ [R.head] }:=⟨_,rfl⟩
   rw[<-hM2,<-hG2]at HG12;have HM2:=Hh (show z.ts=M.ts by rw[hM2];exact HM1.out.2.1);have HGQ2:=Hh hG2;clear hM2 hG2;obtain⟨Y,hY⟩:∃Y,Y=h.alloc (.cells #[.slice none 0 0] 29):=⟨_,rfl⟩
   have hbY:Below h.heap.size h Y:=by rw[hY];exact(Below.refl _ _).alloc (Nat.le_refl _) _
   have HGY:=Hh (HG12.out.below hbY);have HSY:=Hh (show SlAt Y (h.heap.size+1) 1 (some ⟨h.heap.size,0,none⟩) 1 1 [.slice none 0 0] by rw[hY];exact dr h _ _);have HBY:=Hh hbY;have hys:Y.heap.size=h.heap.size+1:=by rw[hY];simp
   clear hbY;have c2:h.cell? ⟨a.heap.size,2,none⟩=some (.slice (z.ra 2) z.ts.length (z.rc 2)):=HG12.out.cl (i:=2) (by omega);go_wp2_with (at_builtin;rw[<-hY];refine bU _ rfl _ _ 62 rfl 0 29 iS (.slice none 0 0) 1 24 Tryz.underlying62 jS jS0 jS1 jS2 rfl (by decide) _ _ _ rfl (HGY.out.rows 2 (by omega)) (h.heap.size+1) (some ⟨h.heap.size,0,none⟩) 1 1 [.slice none 0 0] rfl HSY.out (ie rfl) ?c1 ?c2 ?c3 ?_)
   case c1=>show z.ts.length+1<=maxLen;have:=C.out.2.2.1;rw[HM2.out];unfold maxLen;omega
   case c2=>show(z.ts.length+1)*24<=_;have:=C.out.2.2.1;rw[HM2.out];omega
   case c3=>exact Nat.zero_le _
   intro a13 c13 w13 a0 b L;rw[<-hY]at b;rw[<-hys]at L;have hadd3:=HGY.out.addNotes a0 b L;obtain⟨d2,e2⟩:=HGY.out.cell1 (i:=2) (by omega) b;have d2:w13.cell? ⟨a.heap.size,2,none⟩=some (.slice (z.ra 2) z.ts.length (z.rc 2)):=d2;clear c2 hY;obtain⟨r,F⟩:∃r,r=w13.setCell ⟨a.heap.size,2,none⟩ (.slice a13 (bR G2 z 2+1) c13):=⟨_,rfl⟩
   have HB14:=Hh (show Below a.heap.size a r from HB12.out.trans ((HBY.out.mono HB12.out.size).trans (by rw[F];exact HGY.out.grewBelow (i:=2) (by omega) b 2 _)));have HG14:=Hh hadd3;rw[show(z.ts.length:Nat)=bR G2 z 2 from rfl,<-F]at HG14;have hr13:=HGY.out.rowStays (i:=2) (by omega) b;clear hadd3 a0 b L;obtain⟨M3,hM3⟩:∃M3:bG,M3={ z with ra:=fB z.ra 2 a13,rc:=fB z.rc 2 c13,ts:=z.ts++ [⟨none,0,[]⟩] }:=⟨_,rfl⟩
   obtain⟨G3,hG3⟩:∃G3:ac,G3={ G2 with nt:=G2.nt++ [[]] }:=⟨_,rfl⟩
   rw[<-hM3,<-hG3]at HG14;have HGQ3:=Hh hG3;have HATL:=Hh (show G3.ats.length=i by rw[hG3];show G2.ats.length=i;rw[HGQ2.out];show G1.ats.length=i;rw[HGQ1.out];exact C.out.2.2.2);have HM3:=Hh (show M3.ra 3=z.ra 3/\M3.rc 3=z.rc 3/\G3.ats=G2.ats by rw[hM3,hG3];exact⟨rfl,rfl,rfl⟩);clear hM3 hG3;obtain⟨Z,hZ⟩:∃Z,Z=r.alloc (.cells #[.int .i64 0] 3):=⟨_,rfl⟩
   have hbZ:Below r.heap.size r Z:=by rw[hZ];exact(Below.refl _ _).alloc (Nat.le_refl _) _
   have HGZ:=Hh (HG14.out.below hbZ);have hs14:r.heap.size=w13.heap.size:=by rw[F];simp
   have HSZ4:=Hh (show SlAt Z (r.heap.size+1) 1 (some ⟨w13.heap.size,0,none⟩) 1 1 [.int .i64 0] by rw[hZ,<-hs14];exact dr r _ _);have HBZ:=Hh hbZ;have hzs:Z.heap.size=r.heap.size+1:=by rw[hZ];simp
   clear hbZ;have c3:w13.cell? ⟨a.heap.size,3,none⟩=some (.slice (M3.ra 3) G3.ats.length (M3.rc 3)):=by rw[cell_of_row _ _ 3 _ _ _ hr13,HM3.out.1,HM3.out.2.1,HM3.out.2.2];exact p7 (by omega)
   clear hr13;go_wp2_with (at_builtin;rw[<-F,<-hZ];(refine bU _ rfl _ _ 63 rfl 0 3 iI (.int .i64 0) 1 8 Tryz.underlying63 jI jI0 jI1 jI2 rfl (by decide) _ _ _ rfl (HGZ.out.rows 3 (by omega)) (r.heap.size+1) (some ⟨w13.heap.size,0,none⟩) 1 1 [.int .i64 0] rfl HSZ4.out (ie rfl) ?c1 ?c2 ?c3 ?_))
   case c1=>show G3.ats.length+1<=maxLen;rw[HATL.out];unfold maxLen;omega
   case c2=>show(G3.ats.length+1)*8<=_;rw[HATL.out];omega
   case c3=>exact Nat.zero_le _
   intro a15 c15 w15 W c J;rw[<-F,<-hZ]at c;rw[<-hs14,<-hzs]at J;have hadd4:=HGZ.out.addAt 0 W c J;obtain⟨d3,e3⟩:=HGZ.out.cell1 (i:=3) (by omega) c;have d3:w15.cell? ⟨a.heap.size,3,none⟩=some (.slice (M3.ra 3) G3.ats.length (M3.rc 3)):=d3;clear c3 hZ;obtain⟨W16,a1⟩:∃W16,W16=w15.setCell ⟨a.heap.size,3,none⟩ (.slice a15 (bR G3 M3 3+1) c15):=⟨_,rfl⟩
   have HB16:=Hh (show Below a.heap.size a W16 from HB14.out.trans ((HBZ.out.mono HB14.out.size).trans (by rw[a1];exact HGZ.out.grewBelow (i:=3) (by omega) c 3 _)));have HG16:=Hh hadd4;rw[show(G3.ats.length:Nat)=bR G3 M3 3 from rfl,<-a1]at HG16;clear hadd4 W c J;have HEQ:=Hh (show { G3 with ats:=G3.ats++ [0] }=ac.madeN n (i+1) by rw[sf,HGQ3.out,HGQ2.out,HGQ1.out,<-HGQ.out,<-HRQ.out])
   go_wp2_with fail;go_roundw
   case rel=>exact⟨i+1,_,by go_num,by omega,by rw[<-a1,<-HEQ.out];exact HG16.out,by rw[<-a1];exact HB16.out⟩
   case measure=>simp[intOf];omega
  ·have t1:decide ((i:Int)<(n:Int))=false:=decide_eq_false (by omega);have t1n:decide (i<n)=false:=decide_eq_false hil;have hin:i=n:=by omega
   subst hin;go_wp2;go_ret;exact⟨_,M,rfl,by rw[<-HWO.out];exact HG.out,by rw[<-HWO.out];exact HBE.out⟩
end
structure pW (w0 w:World) (B g c:Nat) (G:ac) (M:bG) (bb:Nat) (t:Int) (i:Nat):Prop where
 gr:aA w B g c G M
 bl:Below B w0 w
 bx:w.heap[bb]? =some (.cells #[.int .i64 t, .int .i64 i] 80 (0,0))
 bf:B<=bb/\∀x,¬M.own g x bb
section
variable {w0 w w' w1 : World} {B g c : Nat} {G : ac} {M : bG} {bb i : Nat} {t : Int}
theorem pW.below(h:pW w0 w B g c G M bb t i)(hb:Below w.heap.size w w'):pW w0 w' B g c G M bb t i:=⟨h.gr.below hb,h.bl.trans (hb.mono h.gr.bs),(hb.block bb (Array.getElem?_eq_some_iff.1 h.bx).1).trans h.bx,h.bf⟩
theorem bQ{w:World}{B g j:Nat}(b:B<=g)(v:Value):Below B w (w.setCell ⟨g,j,none⟩ v):=⟨rfl,rfl,rfl,by simp,fun k a=>Below.heap_setCell _ _ _ k (by show k≠g;omega)⟩
theorem pW.right(h:pW w0 w B g c G M bb t i)(hr:G.right=true):pW w0 (w.setCell ⟨g,8,none⟩ (.bool true)) B g c G M bb t i:=by
 have a:=h.gr.setRight true;have e:({ G with right:=true }:ac)=G:=by rw[<-hr]
 rw[e]at a;exact⟨a,h.bl.trans (bQ (h.gr.inn .g g rfl) _),(Below.heap_setCell _ _ _ bb (fun e=>h.bf.2 .g (show bb=g from e))).trans h.bx,h.bf⟩
theorem pW.c0(h:pW w0 w B g c G M bb t i):w.cell? ⟨bb,0,none⟩=some (.int .i64 t):=by rw[cell_of_row _ _ 0 _ _ _ h.bx];rfl
theorem pW.c1(h:pW w0 w B g c G M bb t i):w.cell? ⟨bb,1,none⟩=some (.int .i64 i):=by rw[cell_of_row _ _ 1 _ _ _ h.bx];rfl
def ac.led1(G:ac)(t i:Int):ac:=if ∀x∈G.led,x.1≠t then { G with led:=G.led++ [(t,i)] } else G
theorem vE(l:List (Int×Int)){k:Nat}{x:Int×Int}(a:l[k]? =some x):(l.flatMap eU)[k*2]? =some (.int .i64 x.1)/\(l.flatMap eU)[k*2+1]? =some (.int .i64 x.2):=by
 induction l generalizing k with
 | nil=>simp at a
 | cons y l ih=>
  cases k with
  | zero=>simp at a;subst a;exact⟨rfl,rfl⟩
  | succ k=>
   have b:=ih (k:=k) (by simpa using a);have c:(k+1)*2=k*2+1+1:=by omega
   rw[c];simpa[eU] using b
theorem bS.set{q:Nat}{x:ae}{la:Option Addr}{lc:Nat}{ms:List af}(h:cE w 0 q x la lc ms){j:Nat}{v:Value}{cs:Array Value}(c:w.heap[g]? =some (.cells cs 67 (0,0))):cE (w.setCell ⟨g,j,none⟩ v) 0 q x la lc ms:=by
 have b:∀k,k≠g->(w.setCell ⟨g,j,none⟩ v).heap[k]? =w.heap[k]? :=fun k b=>Below.heap_setCell _ _ _ k b
 refine⟨(b q (fun e=> ?_)).trans h.row,aE h.own fun k a=>b k (fun e=> ?_),h.its,fun m f=>OwnBs.grown (T:=5) (h.bs m f) (fun k i fr _ d=>b k (fun e=> ?_)) (by simp),Nat.zero_le _⟩
 ·subst e;exact absurd (aB c h.row) (by decide)
 ·subst e;obtain⟨cur,d⟩:=au h.own (by rw[al]at a;exact a);exact absurd (aB c d) (by decide)
 ·subst e;exact absurd (aB c d) (by decide)
theorem qU(w:World)(m:af)(hm:OwnBs 5 w m):bd (w.alloc (.cells #[.int .i64 m.t, .slice m.a m.n m.c] 40)) (w.heap.size+1) (some ⟨w.heap.size,0,none⟩) 1 1 [m]:=
 ⟨cw w #[.int .i64 m.t, .slice m.a m.n m.c] 40 2 rfl,fun y b=>by rw[List.mem_singleton]at b;subst b;have e:=OwnBs.below hm ((Below.refl _ w).alloc (Nat.le_refl _) (.cells #[.int .i64 y.t, .slice y.a y.n y.c] 40));have d:=e.1;simpa using d⟩
theorem cI{b o:Nat}{v:Value}(h:w.cell? ⟨b,o,none⟩=some v):b<w.heap.size:=by
 by_cases a:b<w.heap.size
 ·exact a
 ·exfalso;have c:w.heap[b]? =none:=by rw[Array.getElem?_eq_none_iff];omega
  simp[World.cell?,c]at h
theorem cZ{b k:Nat}(h:w'.heap[b]? =w.heap[b]?):w'.cell? ⟨b,k,none⟩=w.cell? ⟨b,k,none⟩:=by simp[World.cell?,h]
structure wE (V:World) (m1 m2:af) (U:World) (n1 n2:Nat):Prop where
 i1:bd U U.heap.size (some ⟨n1,0,none⟩) 1 1 [m1]
 i2:bd U U.heap.size (some ⟨n2,0,none⟩) 1 1 [m2]
 bl:Below V.heap.size V U
theorem wE.ab(V:World){m1 m2:af}(h1:OwnBs 5 V m1)(h2:OwnBs 5 V m2):wE V m1 m2 ((V.alloc (.cells #[.int .i64 m1.t, .slice m1.a m1.n m1.c] 40)).alloc (.cells #[.int .i64 m2.t, .slice m2.a m2.n m2.c] 40)).drew V.heap.size (V.heap.size+1):=by
 obtain⟨X,b⟩:∃X,X=V.alloc (.cells #[.int .i64 m1.t, .slice m1.a m1.n m1.c] 40):=⟨_,rfl⟩
 have h:Below V.heap.size V X:=by rw[b];exact(Below.refl _ _).alloc (Nat.le_refl _) _
 have i:X.heap.size=V.heap.size+1:=by rw[b];simp
 have j:=qU V m1 h1;rw[<-b,<-i]at j;have e:=qU X m2 (h2.below h);rw[i]at e;rw[<-b];obtain⟨Y,f⟩:∃Y,Y=X.alloc (.cells #[.int .i64 m2.t, .slice m2.a m2.n m2.c] 40):=⟨_,rfl⟩
 have d:Below X.heap.size X Y:=by rw[f];exact(Below.refl _ _).alloc (Nat.le_refl _) _
 have k:Y.heap.size=X.heap.size+1:=by rw[f];simp
 rw[<-f]at e ⊢;have g:Below Y.heap.size Y Y.drew:=(Below.refl _ _).drew;refine⟨((j.below d (Nat.le_refl _)).mono d.size).below g (Nat.le_refl _),(e.mono (show _<=Y.heap.size by omega)).below g (Nat.le_refl _),h.trans ((d.trans (g.mono d.size)).mono h.size)⟩
theorem wE.ba(V:World){m1 m2:af}(h1:OwnBs 5 V m1)(h2:OwnBs 5 V m2):wE V m1 m2 ((V.alloc (.cells #[.int .i64 m2.t, .slice m2.a m2.n m2.c] 40)).alloc (.cells #[.int .i64 m1.t, .slice m1.a m1.n m1.c] 40)).drew (V.heap.size+1) V.heap.size:=
 let h:=wE.ab V h2 h1
 ⟨h.i2,h.i1,h.bl⟩
theorem yM{b:World->Nat->Nat->Prop}{P:Prop}(F:World->Nat->Nat->Prop)(main:(∀U n a,F U n a->b U n a)->P)(key:∀U n a,F U n a->b U n a):P:=main key
structure tL (g sb o ib n cap:Nat) (m1 m2:af) (W:World):Prop where
 s:g<W.heap.size
 r:W.cell? ⟨g,8,none⟩=some (.bool true)
 s5:W.cell? ⟨g,5,none⟩=some (.slice (some ⟨sb,0,none⟩) n cap)
 x0:W.cell? ⟨sb,o,none⟩=some (.int .i64 m2.t)
 x1:W.cell? ⟨sb,o+1,none⟩=some (.slice m2.a m2.n m2.c)
 i0:W.cell? ⟨ib,0,none⟩=some (.int .i64 m1.t)
 i1:W.cell? ⟨ib,1,none⟩=some (.slice m1.a m1.n m1.c)
structure yX (g bb:Nat) (t:Int) (i:Nat) (W:World):Prop where
 s:g<W.heap.size
 c0:W.cell? ⟨bb,0,none⟩=some (.int .i64 t)
 c1:W.cell? ⟨bb,1,none⟩=some (.int .i64 i)
theorem pW.bz(h:pW w0 w B g c G M bb t i):yX g bb t i w:=⟨h.gr.lt (x:= .g) rfl,h.c0,h.c1⟩
theorem qW:(Tryz.prog.info? 65).map (·.size)=some 1:=by kernel_rfl
theorem qX:(Tryz.prog.info? 80).map (fun i=>(i.zero,i.size,i.bytes))=some (some (.agg #[.int .i64 0, .int .i64 0]),2,16):=by kernel_rfl
theorem vG{N:ay}{p:Nat}{R:aa}(h:aA w B g i G M)(hR:G.rs[i]? =some R)(hq:M.ps[i]? =some (p,N))(hok:R.Ok)(hr:G.right=true)
 (hll:G.led.length<=1000000)(hsl:G.seen.length<=1000000)(hwl:G.wh.length=G.seen.length)(hpe:N.ps= [])
 (hled:∀x∈G.led,x.1=R.bt->x.2=i)(hseen:∀(k:Nat) (x:ar) (t:Int),G.seen[k]? =some x->G.wh[k]? =some t->t<R.bt->R.line.base<(k:Int)+1->(k:Int)+1<=R.line.last/\R.item ((k:Int)+1)=x):
  Calls Tryz.prog 63 #[.pointer (some ⟨g,0,none⟩), .int .i64 i] w fun e w'=>e= .returned (.tuple #[])/\∃M',aA w' B g i (G.led1 R.bt i) M'/\M'.ps=M.ps/\Below B w w':=by
 obtain⟨iB,jB,jB0,jB1,jB2⟩:=info_parts qX;obtain⟨b0,hb1,hb2,hb3⟩:=h.ptr hq;have hi0:(0:Int)<=(i:Int):=by omega
 have hin:i<M.ps.length:=(List.getElem?_eq_some_iff.1 hq).1;have hi1:(i:Int)<(M.ps.length:Int):=by omega
 have c0:w.cell? ⟨g,0,none⟩=some (.slice (some ⟨b0,0,none⟩) M.ps.length (M.rc 0)):=by rw[<-hb1];exact h.cl (i:=0) (by omega)
 obtain⟨t,ht⟩:∃t,t=R.bt:=⟨_,rfl⟩
 have HT:=Hh ht;have HRF:=Hh (h.rf i R (p,N) hR hq);have H:=Hh h;have HR:=Hh hR;have HQ:=Hh hq;have HRT:=Hh hr;have HLED:=Hh hled;have HSEEN:=Hh hseen;have HWL:=Hh hwl;have HPE:=Hh hpe;clear h hR hq hr hled hseen hb1 ht hwl hpe;go_enter Tryz.func63,Tryz.ntmps63
 go_wp2_with fail;refine(gZ HRF.out).mono ?_;rintro e w2 ⟨rfl,rfl⟩;rw[<-HT.out];clear c0;have HL0:=Hh (show pW w (w.alloc (.cells #[.int .i64 t, .int .i64 i] 80)) B g i G M w.heap.size t i from
  ⟨H.out.below ((Below.refl _ _).alloc (Nat.le_refl _) _),((Below.refl _ _).alloc (Nat.le_refl _) _).mono H.out.bs,heap_alloc_new w _,H.out.free (Nat.le_refl _)⟩)
 go_wp2_with fail;obtain⟨J,hwo⟩:∃J:World,J=w:=⟨_,rfl⟩
 go_loopw [5,6] (fun fv iv wr=>∃(k:Nat) (f:Bool),iv= .int .i64 k/\k<=G.led.length/\fv= .bool f/\(f=true↔∀x∈G.led.take k,x.1≠t)/\pW J wr B g i G M J.heap.size t i) (fun _ iv _=>G.led.length-(intOf iv).toNat)
 case atStart=>exact⟨0,true,rfl,by omega,rfl,by simp,by rw[hwo];exact HL0.out⟩
 case round=>
  obtain⟨k,f,rfl,hk,rfl,hf,hl⟩:=hrel;have HL:=Hh hl;have HF:=Hh hf;clear hl hf;subst hwo;have c7:wr.cell? ⟨g,7,none⟩=some (.slice (M.ra 7) G.led.length (M.rc 7)):=HL.out.gr.cl (i:=7) (by omega);have cr:wr.cell? ⟨g,8,none⟩=some (.bool true):=by rw[<-HRT.out];exact HL.out.gr.cr
  have fr:=HL.out.gr.f 8;have cb:=HL.out.c0;by_cases hkl:k<G.led.length
  ·have t1:decide ((k:Int)<(G.led.length:Int))=true:=decide_eq_true (by omega);have t1n:decide (k<G.led.length)=true:=decide_eq_true hkl;obtain⟨x,hx⟩:∃x,G.led[k]? =some x:=⟨_,List.getElem?_eq_getElem hkl⟩
   obtain⟨q,hq1,hq2,hq3,hq4⟩:=HL.out.gr.at_ (i:=7) (by omega) (j:=k*2) (by show k*2<G.led.length*2;omega);obtain⟨q',hq1',hq2',_,_⟩:=HL.out.gr.at_ (i:=7) (by omega) (j:=k*2+1) (by show k*2+1<G.led.length*2;omega);rw[hq1]at hq1';injection hq1' with e1;injection e1 with e1;subst e1;have k0:wr.cell? ⟨q,k*2,none⟩=some (.int .i64 x.1):=hq2.trans (vE _ hx).1;have k1:wr.cell? ⟨q,k*2+1,none⟩=some (.int .i64 x.2):=hq2'.trans (vE _ hx).2;rw[hq1]at c7;have hk0:(0:Int)<=(k:Int):=by omega
   have hk1:(k:Int)<(G.led.length:Int):=by omega
   have hxm:=List.mem_of_getElem? hx;have HX:=Hh hx;clear hx hq1 hq2 hq2' hq3;by_cases a0:x.1=t
   ·have tx:(x.1==t)=true:=by simpa using a0
    have hxi:x.2=i:=HLED.out x hxm (by rw[<-HT.out];exact a0);have ti:(x.2==(i:Int))=true:=by simpa using hxi
    have HXT:=Hh a0;have HXI:=Hh hxi;clear a0 hxi hxm;go_wp2_with fail;go_quiet (fail)
    go_wp2_with fail;have HLN:=Hh ((HL.out.below (below_drewN wr nq)).right HRT.out);go_roundw
    case rel=>
     refine⟨k+1,false,by go_num,by omega,rfl,?_,HLN.out⟩;rw[List.take_add_one,HX.out];constructor
     ·intro e;cases e
     ·intro e;exact absurd HXT.out (e x (by simp))
    case measure=>simp[intOf];omega
   ·have tx:(x.1==t)=false:=by simpa using a0
    have HXT:=Hh a0;clear a0 hxm;go_wp2_with fail;go_quiet (fail)
    go_wp2_with fail;have HLN:=Hh (HL.out.below (below_drewN wr nq));go_roundw
    case rel=>
     refine⟨k+1,f,by go_num,by omega,rfl,?_,HLN.out⟩;rw[List.take_add_one,HX.out,HF.out];constructor
     ·intro e y hy;rw[List.mem_append]at hy;rcases hy with hy | hy
      ·exact e y hy
      ·simp at hy;subst hy;exact HXT.out
     ·intro e y hy;exact e y (List.mem_append.2 (.inl hy))
    case measure=>simp[intOf];omega
  ·have t1:decide ((k:Int)<(G.led.length:Int))=false:=decide_eq_false (by omega);have t1n:decide (k<G.led.length)=false:=decide_eq_false hkl;have HF2:=Hh (show f=true↔∀x∈G.led,x.1≠t by rw[HF.out,List.take_of_length_le (by omega)]);clear HF;obtain⟨o,hGL⟩:∃o,o=G.led1 t i:=⟨_,rfl⟩
   have HGL:=Hh hGL;clear hGL;go_upto_if 62 with fail
   go_cut [] (fun wc=>∃M',pW J wc B g i o M' J.heap.size t i/\M'.ps=M.ps)
   case first=>
    cases f with
    | false=>
     have HLF:=Hh (show pW J wr B g i o M J.heap.size t i by rw[HGL.out];unfold ac.led1;rw[if_neg (fun e=>by have:=HF2.out.2 e;cases this)];exact HL.out)
     go_wp2_with fail;go_meet;exact⟨M,HLF.out,rfl⟩
    | true=>
     have T:=Hh (show o={ G with led:=G.led++ [(t,(i:Int))] } by rw[HGL.out];unfold ac.led1;rw[if_pos (HF2.out.1 rfl)]);clear cr fr cb c7;go_wp2_with fail;refine fx (S:=yX g J.heap.size t i) ?_;have hdr:Below wr.heap.size wr wr.drew:=(Below.refl _ _).drew;have HG9:=Hh (HL.out.below hdr);have d:yX g J.heap.size t i wr.drew:=HG9.out.bz;refine hT 0 63 d ?_;refine hT 1 64 d ?_;refine hT 5 68 d ?_;refine hT 2 65 d ?_;refine hT 3 66 d ?_;have HS0:=Hh d;clear d;obtain⟨U,hU⟩:∃U,U=(wr.alloc (.cells #[.int .i64 t, .int .i64 i] 80)).drew:=⟨_,rfl⟩
     have hbU:Below wr.heap.size wr U:=by rw[hU];exact((Below.refl _ _).alloc (Nat.le_refl _) _).drew
     have F:=Hh (HL.out.below hbU);have HIT:=Hh (show SlAt U U.heap.size 2 (some ⟨wr.heap.size,0,none⟩) 1 1 [.int .i64 t, .int .i64 i] by rw[show U.heap.size=wr.heap.size+1 by rw[hU];simp,hU];exact(cw wr #[.int .i64 t, .int .i64 i] 80 2 rfl).below (show Below (wr.heap.size+1) (wr.alloc (.cells #[.int .i64 t, .int .i64 i] 80)) _ from(Below.refl _ _).drew) (Nat.le_refl _))
     have HU:=Hh hU;have HSU:=Hh F.out.bz;clear hbU hU;apply tR (fun U'=>U'=U);intro Y;refine nU 4 6 ?_ ?_
     ·have p4:wr.drew.cell? ⟨g,7,none⟩=some (.slice (M.ra 7) G.led.length (M.rc 7)):=HG9.out.gr.cl (i:=7) (by omega);go_simp;clear p4;refine⟨HS0.out,?_⟩;refine bp 6 ?_;go_simp;rw[<-HU.out];refine⟨HSU.out,?_⟩;exact Y U rfl
     ·go_simp;rw[<-HU.out];refine⟨HSU.out,?_⟩;refine bp 4 ?_;have p4:U.cell? ⟨g,7,none⟩=some (.slice (M.ra 7) G.led.length (M.rc 7)):=F.out.gr.cl (i:=7) (by omega);go_simp;clear p4;refine⟨HSU.out,?_⟩;exact Y U rfl
     rintro U' rfl;refine bp 7 ?_;refine aS U' (.tmp 67) (.tmp 69) 65 rfl 0 80 iB (.agg #[.int .i64 0, .int .i64 0]) 2 16 Tryz.underlying65 jB jB0 jB1 jB2 rfl (by decide) (.slice (M.ra 7) G.led.length (M.rc 7)) G.led.length (G.led.flatMap eU) rfl (F.out.gr.rows 7 (by omega)) U'.heap.size (some ⟨wr.heap.size,0,none⟩) 1 1 [.int .i64 t, .int .i64 i] rfl HIT.out (by intro u hu;simp at hu;rcases hu with rfl | rfl<;>rfl) (by unfold maxLen;omega) (by omega) (Nat.zero_le _) ?_;intro a11 c11 W11 o11 g11 X;have hadd:=F.out.gr.addLed (t,(i:Int)) o11 g11 X;obtain⟨p2,f2⟩:=F.out.gr.cell1 (i:=7) (by omega) g11;have hbb:(aY G M 7).ownBlock≠some J.heap.size:=fun e=>by unfold aY at e;rw[al]at e;exact F.out.bf.2 (.row 7) ⟨by omega,e⟩
     have hbx:W11.heap[J.heap.size]? =some (.cells #[.int .i64 t, .int .i64 i] 80 (0,0)):=(g11.block J.heap.size (Array.getElem?_eq_some_iff.1 F.out.bx).1 (fun e=>hbb e.symm)).trans F.out.bx;have hS11:yX g J.heap.size t i W11:=⟨Nat.lt_of_lt_of_le HSU.out.s g11.size,by rw[cell_of_row _ _ 0 _ _ _ hbx];rfl,by rw[cell_of_row _ _ 1 _ _ _ hbx];rfl⟩
     refine⟨hS11,?_⟩;go_simp;refine hT 8 71 hS11 ?_;refine hT 9 72 hS11 ?_;refine bp 10 ?_;refine aj 65 (.tmp 72) (.tmp 70) rfl g 7 (.slice a11 (G.led.length+1) c11) _ rfl rfl rfl qW p2 f2 ?_;have hbl:=F.out.gr.grewBelow (i:=7) (by omega) g11 7 (.slice a11 (G.led.length+1) c11);obtain⟨W12,hW12⟩:∃W12,W12=W11.setCell ⟨g,7,none⟩ (.slice a11 (G.led.length+1) c11):=⟨_,rfl⟩
     have hbx2:W12.heap[J.heap.size]? =some (.cells #[.int .i64 t, .int .i64 i] 80 (0,0)):=by rw[hW12];exact(Below.heap_setCell _ _ _ _ (fun e=>F.out.bf.2 .g (show J.heap.size=g from e))).trans hbx
     rw[<-hW12]at hadd hbl ⊢;have HL12:=Hh (show pW J W12 B g i o { M with ra:=fB M.ra 7 a11,rc:=fB M.rc 7 c11 } J.heap.size t i from
      ⟨by rw[T.out];exact hadd,F.out.bl.trans (hbl),hbx2,⟨F.out.bf.1,fun x hx=>by
       have I:pW J U' B g i G M J.heap.size t i:=F.out;cases x with
       | g=>exact I.bf.2 .g hx
       | raft j=>exact I.bf.2 (.raft j) hx
       | nts j=>exact I.bf.2 (.nts j) hx
       | row j=>
        obtain⟨hj,hk⟩:j<8/\(fB M.ra 7 a11 j).map (·.block)=some J.heap.size:=hx;by_cases e7:j=7
        ·subst e7;rw[dp]at hk;rw[al]at X;rcases X with e | e
         ·rw[hk]at e;exact hbb e.symm
         ·rw[hk]at e;injection e with e;have:=(Array.getElem?_eq_some_iff.1 I.bx).1;omega
        ·rw[cN _ _ e7]at hk;exact I.bf.2 (.row j) ⟨hj,hk⟩⟩⟩)
     have hS12:yX g J.heap.size t i W12:=HL12.out.bz;refine⟨hS12,dc ?_⟩;clear hS11 hS12 p2 f2 hbb hbx hbx2 hadd hbl hW12 o11 g11 X hdr;go_wp2_with fail;go_meet;exact⟨_,HL12.out,rfl⟩
   case rest=>
    obtain⟨D,hl2,hm2⟩:=hcut;have HL2:=Hh hl2;have HM2:=Hh hm2;clear hl2 hm2;have T:=Hh (show o.rs=G.rs/\o.seen=G.seen/\o.wh=G.wh/\o.right=true by rw[HGL.out];unfold ac.led1;split<;>exact⟨rfl,rfl,rfl,HRT.out⟩)
    have HP2:=Hh (show D.ps[i]? =some (p,N) by rw[HM2.out];exact HQ.out);have HRF2:=Hh (HL2.out.gr.rf i R (p,N) (by rw[T.out.1];exact HR.out) HP2.out);obtain⟨b2,hb21,hb22,hb23⟩:=HL2.out.gr.ptr HP2.out;have hlen2:D.ps.length=M.ps.length:=by rw[HM2.out]
    have hi2:(i:Int)<(D.ps.length:Int):=by omega
    have c0:wc.cell? ⟨g,0,none⟩=some (.slice (some ⟨b2,0,none⟩) D.ps.length (D.rc 0)):=by rw[<-hb21];exact HL2.out.gr.cl (i:=0) (by omega)
    clear hb21 hlen2;go_wp2_with fail;refine(qx hok.line HRF2.out).mono ?_;rintro e w3 ⟨q,la,lc,rfl,hln3,hbe3,hq3⟩;have HLN3:=Hh (bS.mono0 hln3);have HL3:=Hh (HL2.out.below hbe3);clear hln3 hbe3 c0 hb22;go_wp2_with fail;refine(fM 0 q R.line la lc N.ms _ HLN3.out).mono ?_;rintro e w4 ⟨rfl,m4,rfl⟩;have HLN4:=Hh (HLN3.out.drewN m4);have HL4:=Hh (HL3.out.below (below_drewN w3 m4));go_wp2_with fail;have hbase:=hok.line.b0;have hbase1:=hok.line.b1;obtain⟨bs,hbs⟩:∃bs,bs=R.line.base:=⟨_,rfl⟩
    rw[<-hbs]at hbase hbase1 ⊢;have HBS:=Hh hbs;clear hbs;go_loopw [10] (fun iv wr=>∃k:Nat,iv= .int .i64 k/\k<=o.seen.length/\pW J wr B g i o D J.heap.size t i/\cE wr 0 q R.line la lc N.ms) (fun iv _=>o.seen.length-(intOf iv).toNat)
    case atStart=>exact⟨0,rfl,by omega,HL4.out,HLN4.out⟩
    case round=>
     obtain⟨j,rfl,hj,hl5,hln5⟩:=hrel;have C:=Hh hl5;have HLN5:=Hh hln5;clear hl5 hln5;have d5:wr.cell? ⟨g,5,none⟩=some (.slice (D.ra 5) D.ss.length (D.rc 5)):=C.out.gr.cl (i:=5) (by omega);have hss:D.ss.length=o.seen.length:=by rw[<-C.out.gr.ct.sq];simp
     rw[hss]at d5;by_cases hjl:j<o.seen.length
     ·have t2:decide ((j:Int)<(o.seen.length:Int))=true:=decide_eq_true (by omega);have t2n:decide (j<o.seen.length)=true:=decide_eq_true hjl;have hwl2:o.wh.length=o.seen.length:=by rw[T.out.2.1,T.out.2.2.1];exact HWL.out
      obtain⟨x,hx⟩:∃x,o.seen[j]? =some x:=⟨_,List.getElem?_eq_getElem hjl⟩
      obtain⟨y,hy⟩:∃y,o.wh[j]? =some y:=⟨_,List.getElem?_eq_getElem (by omega)⟩
      obtain⟨m,hms⟩:∃m,D.ss[j]? =some m:=⟨_,List.getElem?_eq_getElem (by omega)⟩
      have hmx:m.it=x:=by
       have I:=C.out.gr.ct.sq;have h8:(D.ss.map af.it)[j]? =some x:=by rw[I];exact hx
       rw[List.getElem?_map,hms]at h8;injection h8
      obtain⟨q6,hq61,hq62,_,_⟩:=C.out.gr.at_ (i:=6) (by omega) (j:=j) (by show j<o.wh.length*1;omega);obtain⟨L,hq51,hq52,_,hq54⟩:=C.out.gr.at_ (i:=5) (by omega) (j:=j*2) (by show j*2<D.ss.length*2;omega);obtain⟨q5',hq51',hq52',_,_⟩:=C.out.gr.at_ (i:=5) (by omega) (j:=j*2+1) (by show j*2+1<D.ss.length*2;omega);rw[hq51]at hq51';injection hq51' with e1;injection e1 with e1;subst e1;have d6:wr.cell? ⟨g,6,none⟩=some (.slice (some ⟨q6,0,none⟩) o.wh.length (D.rc 6)):=by rw[<-hq61];exact C.out.gr.cl (i:=6) (by omega)
      rw[hwl2]at d6;have k6:wr.cell? ⟨q6,j,none⟩=some (.int .i64 y):=by rw[hq62];show(o.wh.map iz)[j]? =_;rw[List.getElem?_map,hy];rfl
      have HX0:=Hh (show wr.cell? ⟨L,j*2,none⟩=some (.int .i64 m.t)/\wr.cell? ⟨L,j*2+1,none⟩=some (.slice m.a m.n m.c) from⟨hq52.trans (dF _ _ _ hms).1,hq52'.trans (dF _ _ _ hms).2⟩);rw[hq51]at d5;have HQ5:=Hh hq51;have hj0:(0:Int)<=(j:Int):=by omega
      have hj1:(j:Int)<(o.seen.length:Int):=by omega
      have d4:=C.out.c0;have HMX:=Hh hmx;have HOWN2:=Hh (C.out.gr.ct.sb m (List.mem_of_getElem? hms));have hsx:o.seen.length<=1000000:=by rw[T.out.2.1];exact hsl
      have HSE:=Hh (fun h1 h2=>HSEEN.out j x y (by rw[<-T.out.2.1];exact hx) (by rw[<-T.out.2.2.1];exact hy) h1 h2);clear hx hy hms hmx hq61 hq62 hq51 hq52 hq52' hss hwl2;by_cases hty:t<=y
      ·have ty:decide (t<=y)=true:=decide_eq_true hty;clear hty;go_wp2_with fail;go_quiet (fail)
       have HN:=Hh (C.out.below (below_drewN wr nq));have a2:=Hh (HLN5.out.drewN nq);go_wp2_with fail;go_roundw
       case rel=>exact⟨j+1,by go_num,by omega,HN.out,a2.out⟩
       case measure=>simp[intOf];omega
      ·have ty:decide (t<=y)=false:=decide_eq_false hty;by_cases hjb:(j:Int)+1<=bs
       ·have tb:decide ((j:Int)+1<=bs)=true:=decide_eq_true hjb;clear hty hjb;go_wp2_with fail;go_quiet (fail)
        have HN:=Hh (C.out.below (below_drewN wr nq));have a2:=Hh (HLN5.out.drewN nq);go_wp2_with fail;go_roundw
        case rel=>exact⟨j+1,by go_num,by omega,HN.out,a2.out⟩
        case measure=>simp[intOf];omega
       ·have tb:decide ((j:Int)+1<=bs)=false:=decide_eq_false hjb;obtain⟨hk1,hk2⟩:=HSE.out (by rw[<-HT.out];omega) (by rw[<-HBS.out];omega);have HK:=Hh (show R.line.base<(j:Int)+1/\(j:Int)+1<=R.line.last from⟨by rw[<-HBS.out];omega,hk1⟩);have HIX:=Hh (show R.line.l.getD ((j:Int)+1-R.line.base-1).toNat (0,[])=m.it by
         rw[HMX.out,<-hk2];unfold aa.item;rw[if_pos HK.out])
        clear hty hjb hk1 hk2;go_wp2_with fail;go_quiet (fail)
        have HN:=Hh (C.out.below (below_drewN wr nq));have a2:=Hh (HLN5.out.drewN nq);have HX1:=Hh (show(wr.drewN nq).cell? ⟨L,j*2,none⟩=some (.int .i64 m.t)/\(wr.drewN nq).cell? ⟨L,j*2+1,none⟩=some (.slice m.a m.n m.c) from HX0.out);have HOWN3:=Hh (HOWN2.out.below (below_drewN wr nq));obtain⟨wn,hwn⟩:∃wn,wn=wr.drewN nq:=⟨_,rfl⟩
        rw[<-hwn]at HN a2 HX1 HOWN3;go_wp2_with fail;rw[<-hwn];refine(kP 0 q R.line hok.line la lc N.ms ((j:Int)+1) _ a2.out).mono ?_;intro e Z hi6;unfold dH at hi6;rw[if_pos HK.out,HIX.out]at hi6;obtain⟨a6,c6,rfl,hown6,hbe6⟩:=hi6;have HB6:=Hh hbe6;obtain⟨A,hm1⟩:∃A:af,A=⟨m.t,a6,m.b.length,c6,m.b⟩:=⟨_,rfl⟩
        obtain⟨V,hV⟩:∃V,V=Z.alloc (.cells #[.int .i64 m.t, .slice a6 m.b.length c6] 40):=⟨_,rfl⟩
        have hbV:Below Z.heap.size Z V:=by rw[hV];exact(Below.refl _ _).alloc (Nat.le_refl _) _
        have hrV:V.heap[Z.heap.size]? =some (.cells #[.int .i64 A.t, .slice A.a A.n A.c] 40 (0,0)):=by rw[hV,hm1];exact heap_alloc_new Z _
        have W:Below wn.heap.size wn V:=hbe6.trans (hbV.mono hbe6.size);have a1:=Hh (HN.out.below W);have HLLV:=Hh (bS.below a2.out W);have HO1:=Hh (show OwnBs 5 V A by have I:=OwnBs.below hown6 hbV;rw[hm1];exact⟨⟨I.1.hlen,I.1.hle,I.1.hmax,I.1.hnil,I.1.hbig,I.1.hat⟩,I.2⟩)
        have HO2:=Hh (HOWN3.out.below W);have HSAME:=Hh (show decide (([A]:List af).map af.it=([m]:List af).map af.it)=true by rw[hm1];exact decide_eq_true rfl);have hc5:V.cell? ⟨g,5,none⟩=some (.slice (some ⟨L,0,none⟩) o.seen.length (D.rc 5)):=by
         have I:=a1.out.gr.cl (i:=5) (by omega);rw[I];unfold aY;have h8:bR o D 5=o.seen.length:=by show D.ss.length=_;rw[<-a1.out.gr.ct.sq];simp
         rw[h8,HQ5.out]
        have hcV:V.cell? ⟨L,j*2,none⟩=some (.int .i64 m.t)/\V.cell? ⟨L,j*2+1,none⟩=some (.slice m.a m.n m.c):=by
         have hq5:L<wn.heap.size:=by rw[hwn];exact hq54
         exact⟨(W.cell (p:=⟨L,j*2,none⟩) hq5).trans HX1.out.1,(W.cell (p:=⟨L,j*2+1,none⟩) hq5).trans HX1.out.2⟩
        have z:=Hh (show tL g L (j*2) Z.heap.size o.seen.length (D.rc 5) A m V from
         ⟨a1.out.gr.lt (x:= .g) rfl,by rw[<-T.out.2.2.2];exact a1.out.gr.cr,hc5,hcV.1,hcV.2,by rw[cell_of_row _ _ 0 _ _ _ hrV];rfl,by rw[cell_of_row _ _ 1 _ _ _ hrV];rfl⟩)
        have HV:=Hh hV;have HM1:=Hh hm1;have hw6:Z.heap.size<V.heap.size:=(Array.getElem?_eq_some_iff.1 hrV).1;have HRV:=Hh hrV;clear d4 d5 d6 k6 hwn hV hbV hrV W hown6 hbe6 hc5 hcV hm1;go_wp2_with fail;rw[<-HV.out];refine fx (S:=tL g L (j*2) Z.heap.size o.seen.length (D.rc 5) A m) ?_;have hdr:Below V.heap.size V V.drew:=(Below.refl _ _).drew;have d:tL g L (j*2) Z.heap.size o.seen.length (D.rc 5) A m V.drew:=⟨z.out.s,z.out.r,z.out.s5,z.out.x0,z.out.x1,z.out.i0,z.out.i1⟩
        refine hT 0 123 d ?_;refine hT 1 124 d ?_;refine hT 2 125 d ?_;refine hT 3 126 d ?_;refine hT 4 127 d ?_;refine hT 5 128 d ?_;refine hT 6 129 d ?_;refine hT 7 130 d ?_;refine hT 8 131 d ?_;refine hT 9 132 d ?_;refine hT 11 134 d ?_;refine hT 15 138 d ?_;refine hT 12 135 d ?_;refine hT 13 136 d ?_;refine hT 14 137 d ?_;refine hT 16 139 d ?_;refine hT 17 140 d ?_;have HS0:=Hh d;clear d;have HKS:=Hh (show ∀U,Below V.heap.size V U->tL g L (j*2) Z.heap.size o.seen.length (D.rc 5) A m U from fun U hb=>by
         have hl9:=a1.out.below hb;have hg5:L<V.heap.size:=by have I:=z.out.x0;exact cI I
         exact⟨Nat.lt_of_lt_of_le z.out.s hb.size,(hb.cell (p:=⟨g,8,none⟩) z.out.s).trans z.out.r,(hb.cell (p:=⟨g,5,none⟩) z.out.s).trans z.out.s5,(hb.cell (p:=⟨L,j*2,none⟩) hg5).trans z.out.x0,(hb.cell (p:=⟨L,j*2+1,none⟩) hg5).trans z.out.x1,(hb.cell (p:=⟨Z.heap.size,0,none⟩) hw6).trans z.out.i0,(hb.cell (p:=⟨Z.heap.size,1,none⟩) hw6).trans z.out.i1⟩)
        apply yM (fun U n1 n2=>wE V A m U n1 n2);intro Y;obtain⟨UA,hUA⟩:∃UA,UA=((V.alloc (.cells #[.int .i64 A.t, .slice A.a A.n A.c] 40)).alloc (.cells #[.int .i64 m.t, .slice m.a m.n m.c] 40)).drew:=⟨_,rfl⟩
        obtain⟨UB,hUB⟩:∃UB,UB=((V.alloc (.cells #[.int .i64 m.t, .slice m.a m.n m.c] 40)).alloc (.cells #[.int .i64 A.t, .slice A.a A.n A.c] 40)).drew:=⟨_,rfl⟩
        have HUA:=Hh hUA;have HUB:=Hh hUB;have O:=wE.ab V HO1.out HO2.out;have hba:=wE.ba V HO1.out HO2.out;rw[<-hUA]at O;rw[<-hUB]at hba;have HAB:=Hh O;have HBA:=Hh hba;clear hUA hUB O hba;have HA1:=Hh (show tL g L (j*2) Z.heap.size o.seen.length (D.rc 5) A m (V.alloc (.cells #[.int .i64 A.t, .slice A.a A.n A.c] 40)).drew from HKS.out _ (((Below.refl _ V).alloc (Nat.le_refl _) _).drew));have HB1:=Hh (show tL g L (j*2) Z.heap.size o.seen.length (D.rc 5) A m (V.alloc (.cells #[.int .i64 m.t, .slice m.a m.n m.c] 40)).drew from HKS.out _ (((Below.refl _ V).alloc (Nat.le_refl _) _).drew));have HUAS:=Hh (HKS.out _ HAB.out.bl);have HUBS:=Hh (HKS.out _ HBA.out.bl);refine nU 10 18 ?_ ?_
        ·go_simp;refine⟨HA1.out,?_⟩;refine bp 18 ?_;go_simp;rw[<-HUA.out];refine⟨HUAS.out,?_⟩;have O:=HAB.out;generalize V.heap.size+1=n2 at O ⊢;generalize V.heap.size=n1 at O ⊢;exact Y UA _ _ O
        ·go_simp;refine⟨HB1.out,?_⟩;refine bp 10 ?_;go_simp;rw[<-HUB.out];refine⟨HUBS.out,?_⟩;have O:=HBA.out;generalize V.heap.size+1=n2 at O ⊢;generalize V.heap.size=n1 at O ⊢;exact Y UB _ _ O
        intro U n1 n2 hsm;have HSM:=Hh hsm;clear hsm;refine bp 19 ?_;go_simp;refine(ta [A] [m] (some ⟨n1,0,none⟩) (some ⟨n2,0,none⟩) 1 1 1 1 (by omega) U HSM.out.i1 HSM.out.i2).mono ?_;rintro e V9 ⟨rfl,hb9⟩;rw[HSAME.out];have HB9:=Hh (HSM.out.bl.trans (hb9.mono HSM.out.bl.size));have HL9:=Hh (a1.out.below HB9.out);have HLL9:=Hh (bS.below HLLV.out HB9.out);have P:=HKS.out _ HB9.out;clear hb9;refine⟨P,?_⟩;refine hT 20 143 P ?_;refine hT 21 144 P ?_;refine hT 22 145 P ?_;refine bp 23 ?_;refine aj 4 (.tmp 145) (.tmp 143) rfl g 8 (.bool true) _ rfl rfl rfl iL P.r (HL9.out.gr.f 8) ?_;have HR9:=Hh (HL9.out.right T.out.2.2.2);have HLLR:=Hh (bS.set (j:=8) (v:= .bool true) HLL9.out HL9.out.gr.row);obtain⟨W9,hW9⟩:∃W9,W9=V9.setCell ⟨g,8,none⟩ (.bool true):=⟨_,rfl⟩
        have hc9:∀(b k:Nat),b≠g->W9.cell? ⟨b,k,none⟩=V9.cell? ⟨b,k,none⟩:=fun b k hb=>by rw[hW9];exact cZ (Below.heap_setCell _ _ _ b hb)
        have hqg:L≠g:=fun e=>by
         have I:D.own g (.row 5) L:=⟨by omega,by rw[HQ5.out];rfl⟩
         have h8:=HL9.out.gr.dis .g (.row 5) L e I;cases h8
        have hig:Z.heap.size≠g:=fun e=>by have I:=a1.out.gr.row;rw[<-e]at I;exact absurd (aB I HRV.out) (by decide)
        rw[<-hW9]at HR9 HLLR ⊢;have hS10:tL g L (j*2) Z.heap.size o.seen.length (D.rc 5) A m W9:=⟨HR9.out.gr.lt (x:= .g) rfl,by rw[<-T.out.2.2.2];exact HR9.out.gr.cr,by
          have I:=HR9.out.gr.cl (i:=5) (by omega);have h8:=HL9.out.gr.cl (i:=5) (by omega);exact I.trans (h8.symm.trans P.s5),(hc9 _ _ hqg).trans P.x0,(hc9 _ _ hqg).trans P.x1,(hc9 _ _ hig).trans P.i0,(hc9 _ _ hig).trans P.i1⟩
        refine⟨hS10,dc ?_⟩;clear P hS10 hc9 hqg hig hW9 hdr;go_wp2_with fail;go_roundw
        case rel=>exact⟨j+1,by go_num,by omega,HR9.out,HLLR.out⟩
        case measure=>simp[intOf];omega
     ·have t2:decide ((j:Int)<(o.seen.length:Int))=false:=decide_eq_false (by omega);have t2n:decide (j<o.seen.length)=false:=decide_eq_false hjl;go_wp2_with fail;go_end0;exact⟨rfl,D,by rw[<-HT.out,<-HGL.out];exact C.out.gr,HM2.out,C.out.bl⟩
end
end Go.Proofs.YtogcnfhmcpkdcaaGreat
