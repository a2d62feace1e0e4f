/-
Contracts of raft.New and of what reads a replica.
-/
import Derived.Test.YtogcnfhmcpkdcaaGreatRaftMem
import Derived.Test.YtogcnfhmcpkdcaaGreatPenZ
import Derived.Test.YtogcnfhmcpkdcaaGreatHeldM
import Derived.Test.YtogcnfhmcpkdcaaGreatLetM2
import Derived.Test.YtogcnfhmcpkdcaaGreatLineR
import Derived.Test.YtogcnfhmcpkdcaaGreatLineM9
set_option maxRecDepth 100000
set_option maxHeartbeats 2000000
namespace Go.Proofs.YtogcnfhmcpkdcaaGreat
open Go.RowKit
set_option linter.unusedVariables false
set_option linter.unusedSimpArgs false
theorem ao.c{w:World}{p:Nat}{R:aa}{M:ay}(h:ao w p R M){i:Nat}{v:Value}(a:(aP R M)[i]? =some v):w.cell? ⟨p,i,none⟩=some v:=by rw[cell_of_row _ _ _ _ _ _ h.row,List.getElem?_toArray];exact a
theorem ao.f{w:World}{p:Nat}{R:aa}{M:ay}(h:ao w p R M)(i:Nat):w.frozen? ⟨p,i,none⟩=false:=frozen_of_row _ _ _ _ _ h.row
theorem ao.tails{w:World}{p:Nat}{R:aa}{M:ay}(h:ao w p R M):w.cell? ⟨p,32,none⟩=some (.bool R.jumped)/\w.cell? ⟨p,33,none⟩=some (.slice M.na M.ns.length M.nc)/\w.cell? ⟨p,34,none⟩=some (.slice M.oa M.on M.oc):=⟨h.c (ea h.sv (j:=0) (by omega)),h.c (ea h.sv (j:=1) (by omega)),h.c (ea h.sv (j:=2) (by omega))⟩
section
variable {w : World} {p : Nat} {R : aa} {M : ay}
theorem jZ(h:ao w p R M):Calls Tryz.prog 20 #[.pointer (some ⟨p,0,none⟩)] w fun e w'=>e= .returned (.int .i64 R.role)/\w=w':=by
 have c:=h.c (i:=6) rfl;clear h;go_enter Tryz.func20,Tryz.ntmps20
 go_wp2;go_ret;exact⟨rfl,rfl⟩
theorem gD(h:ao w p R M):Calls Tryz.prog 26 #[.pointer (some ⟨p,0,none⟩)] w fun e w'=>e= .returned (.int .i64 R.lead)/\w=w':=by
 have c:=h.c (i:=7) rfl;clear h;go_enter Tryz.func26,Tryz.ntmps26
 go_wp2;go_ret;exact⟨rfl,rfl⟩
theorem gZ(h:ao w p R M):Calls Tryz.prog 28 #[.pointer (some ⟨p,0,none⟩)] w fun e w'=>e= .returned (.int .i64 R.bt)/\w=w':=by
 have c:=h.c (i:=2) rfl;clear h;go_enter Tryz.func28,Tryz.ntmps28
 go_wp2;go_ret;exact⟨rfl,rfl⟩
theorem rZ(h:ao w p R M):Calls Tryz.prog 32 #[.pointer (some ⟨p,0,none⟩)] w fun e w'=>e= .returned (.int .i64 R.commit)/\w=w':=by
 have c:=h.c (i:=8) rfl;clear h;go_enter Tryz.func32,Tryz.ntmps32
 go_wp2;go_ret;exact⟨rfl,rfl⟩
theorem gn(a:R.line.Good)(h:ao w p R M):Calls Tryz.prog 83 #[.pointer (some ⟨p,0,none⟩)] w fun e w'=>e= .returned (.int .i64 R.line.last)/\∃m,w'=w.drewN m:=by
 have c:=h.c (i:=4) rfl;have d:=Hh a;have b:=Hh h.ln;clear h a;go_enter Tryz.func83,Tryz.ntmps83
 go_wp2_with fail;refine(kj 0 M.lb R.line d.out M.la M.lc M.ms _ b.out).mono ?_;rintro e f ⟨rfl,m,rfl⟩;go_wp2;go_ret;exact⟨rfl,m,rfl⟩
end
theorem bS.mono0{w:World}{base p:Nat}{x:ae}{la:Option Addr}{lc:Nat}{ms:List af}(h:cE w base p x la lc ms):cE w 0 p x la lc ms:=⟨h.row,World.ownsRow.mono h.own (Nat.zero_le _),h.its,h.bs,Nat.zero_le _⟩
def yQ(lb me n:Value):Array Value:=#[me,n,iz 0,iz (-1),lb, .slice none 0 0,iz 0,iz (-1),iz 0,iz 0,iz 0,iz 0,iz 0,iz 0,iz 0,iz 0,iz 0,iz 0,iz 0,iz 0,iz 0,iz 0,iz 0,iz 0,iz 0,iz 0,iz 0,iz 0,iz 0,iz 0,iz 0,iz 0, .bool false, .slice none 0 0, .slice none 0 0]
theorem sK(me n:Int)(lb:Nat):Tryz.prog.built 84 [(0,iz me),(1,iz n),(2, .agg #[iz 0,iz (-1)]),(3, .pointer (some ⟨lb,0,none⟩)),(6,iz (-1))]=some (yQ (.pointer (some ⟨lb,0,none⟩)) (iz me) (iz n)):=by kernel_rfl
abbrev zg (lb:Nat):ay:=⟨lb,none,0,[],none,0,none,0,[],none,0,0,[],[]⟩
def zi(p:Nat)(R:aa)(M:ay)(w w':World):Prop:=ao w' p R M/\Below w.heap.size w w'/\∀k,M.own p k->w.heap.size<=k
theorem i6(me n:Int)(h1:1<=n)(h7:n<=7)(hm:0<=me)(hn:me<n)(w:World):
  Calls Tryz.prog 9 #[.int .i64 me, .int .i64 n] w fun e w'=>∃p,e= .returned (.pointer (some ⟨p,0,none⟩))/\∃M,zi p (aa.new me n) M w w':=by
 have o:bD n=n / 2+1:=by unfold bD;rw[if_neg (by omega)]
 have y:(bD n==0)=false:=by rw[o];simp;omega
 have x:decide (me<0)=false:=by simp;omega
 have t3:decide (n<=me)=false:=by simp;omega
 clear o;go_enter Tryz.func9,Tryz.ntmps9
 go_wp2_with fail;refine(cj n _).mono ?_;rintro e v ⟨rfl,rfl⟩;go_wp2_with fail;refine(fS 0 0 (by rfl) _).mono ?_;rintro e q ⟨rfl,f,h,d⟩;have m:=Hh f;have c:=Hh h;have t:=Hh d;clear f h d;go_wp2_with (first
  | (refine mu rfl 84 [(0, .tmp 17),(1, .tmp 18),(2, .tmp 19),(3, .tmp 20),(6, .const (.int .i64 (-1)))] rfl [(0,iz me),(1,iz n),(2, .agg #[iz 0,iz (-1)]),(3, .pointer (some ⟨w.heap.size,0,none⟩)),(6,iz (-1))] rfl _ (sK me n w.heap.size) ?_)
  | (refine mv rfl 84 (.tmp 21) rfl (yQ (.pointer (some ⟨w.heap.size,0,none⟩)) (iz me) (iz n)) rfl ?_;intro s a g r;have l:=Hh a;have i:=Hh g;clear a g))
 go_ret;have j:cE s 0 w.heap.size ⟨0,0,[]⟩ none 0 []:=bS.mono0 (m.out.below i.out);refine⟨q.heap.size,rfl,zg w.heap.size,⟨⟨rfl,rfl,rfl⟩,l.out,j,?_,⟨rfl, .inl ⟨rfl,rfl⟩⟩,by simp,rfl,⟨rfl, .inl ⟨rfl,rfl⟩⟩,rfl,⟨rfl,rfl,by simp,by simp⟩⟩,c.out.trans (i.out.mono c.out.size),?_⟩
 ·exact⟨aM.zero _ _ _ _ (by simp[maxLen]) (fun _=>rfl),fun b=>by simp[aa.new]at b⟩
 ·rintro k (rfl | rfl | b | b | b)
  ·exact c.out.size
  ·exact Nat.le_refl _
  ·simp at b
  ·simp at b
  ·simp at b
theorem rX(me n:Int)(h:¬(1<=n/\n<=7/\0<=me/\me<n))(w:World):
  Calls Tryz.prog 9 #[.int .i64 me, .int .i64 n] w fun e w'=>e= .returned (.pointer none)/\w=w':=by
 by_cases c:1<=n/\n<=7
 ·have a:bD n=n / 2+1:=by unfold bD;rw[if_neg (by omega)]
  have g:(bD n==0)=false:=by rw[a];simp;omega
  clear a;by_cases b:me<0
  ·have f:decide (me<0)=true:=by simpa using b
   clear h c b;go_enter Tryz.func9,Tryz.ntmps9
   go_wp2_with fail;refine(cj n _).mono ?_;rintro e d ⟨rfl,rfl⟩;go_wp2;go_ret;exact⟨rfl,rfl⟩
  ·have f:decide (me<0)=false:=by simpa using b
   have t3:decide (n<=me)=true:=by simp;omega
   clear h c b;go_enter Tryz.func9,Tryz.ntmps9
   go_wp2_with fail;refine(cj n _).mono ?_;rintro e d ⟨rfl,rfl⟩;go_wp2;go_ret;exact⟨rfl,rfl⟩
 ·have a:bD n=0:=by unfold bD;rw[if_pos (by omega)]
  have g:(bD n==0)=true:=by rw[a];rfl
  clear a h c;go_enter Tryz.func9,Tryz.ntmps9
  go_wp2_with fail;refine(cj n _).mono ?_;rintro e d ⟨rfl,rfl⟩;go_wp2;go_ret;exact⟨rfl,rfl⟩
theorem gN:(Tryz.prog.info? 27).map (fun i=>(i.zero,i.size,i.bytes))=some (some (.slice none 0 0),1,24):=by kernel_rfl
theorem gM:(Tryz.prog.info? 29).map (·.size)=some 1:=by kernel_rfl
theorem ux:(Tryz.prog.info? 51).map (·.size)=some 1:=by kernel_rfl
theorem vI:(Tryz.prog.info? 102).map (fun i=>(i.zero,i.size,i.bytes))=some (some (.agg #[iz 0,iz 0,iz 0,iz 0,iz 0,iz 0, .bool false, .slice none 0 0, .slice none 0 0]),9,104):=by kernel_rfl
theorem pA{w W:World}(a:W.heap[w.heap.size]? =some (.cells #[.slice none 0 0] 86 (0,0))):cy 5 W w.heap.size (.slice none 0 0) []:=⟨(Array.getElem?_eq_some_iff.1 a).1,cell_of_row W _ 0 _ _ _ a,frozen_of_row _ _ _ _ _ a,⟨rfl, .inl ⟨rfl,rfl⟩⟩⟩
theorem tR{G:World->Prop}{P:Prop}(F:World->Prop)(main:(∀U,F U->G U)->P)(key:∀U,F U->G U):P:=main key
structure PZ (p:Nat) (W:World):Prop where
 s:p<W.heap.size
structure ph (p:Nat) (R:aa) (M:ay) (w:World) (L:List UInt8) (U:World) (n:Nat) (a4:Option Addr) (c4:Nat):Prop where
 rf:ao U p R M
 it:SlAt U U.heap.size 1 (some ⟨n,0,none⟩) 1 1 [.slice a4 L.length c4]
 by_ :cS U a4 c4 L
 bel:Below w.heap.size w U
theorem fI(p:Nat)(R:aa)(M:ay)(hb0:0<=R.bt)(hb1:R.bt<=1099511627776)(hf0: -1<=R.bf)(hf1:R.bf<=6)(hn:R.news.length<=1000000000)(w:World)(h:ao w p R M):
  Calls Tryz.prog 44 #[.pointer (some ⟨p,0,none⟩)] w fun e w'=>e= .returned (.tuple #[])/\∃M',ao w' p R.noteBallot M'/\ah p M M' w w':=by
 obtain⟨j0,gi,gz0,gz1,gz2⟩:=info_parts gN;obtain⟨B,hB⟩:∃B:Nat,R.bt=B:=⟨R.bt.toNat,by omega⟩
 obtain⟨F,hF⟩:∃F:Nat,R.bf+1=F:=⟨(R.bf+1).toNat,by omega⟩
 obtain⟨f,hf⟩:∃f:Int,R.bf=f:=⟨_,rfl⟩
 have w1:IntKind.u64.wrap (B:Int)=B:=IntWalk.u64_in _ (by omega);have w2:IntKind.i64.wrap (f+1)=(F:Int):=by rw[<-hf,hF];exact IntWalk.i64_in _ (by omega)
 have w3:IntKind.u64.wrap (F:Int)=F:=IntWalk.u64_in _ (by omega);have hB1:B<=1099511627776:=by omega
 have hF1:F<=7:=by omega
 have a2:=Hh (show bT R.bt R.bf=aC 1++(aC B++aC F) by rw[bT,hB,hF];simp);obtain⟨W0,O⟩:∃W0,W0=w.alloc (.cells #[.slice none 0 0] 86):=⟨_,rfl⟩
 have HW0:=Hh O;have hbW:Below w.heap.size w W0:=by rw[O];exact(Below.refl _ _).alloc (Nat.le_refl _) _
 have hp0:=pA (w:=w) (W:=W0) (by rw[O];exact heap_alloc_new w _);have HP0:=Hh hp0;have HB0:=Hh hbW;have HR:=Hh h;have hns:M.ns.length<=1000000000:=by rw[<-h.nq]at hn;simpa using hn
 have HBB:=Hh hB;have HFF:=Hh hf;have hpl:=h.lt;clear hB hF hf O hbW hp0 h hn hb0 hb1 hf0 hf1;go_enter Tryz.func44,Tryz.ntmps44
 go_wp2_with fail;rw[<-HW0.out];refine(dE w.heap.size 1 (by omega) _ [] (by simp) _ HP0.out).mono ?_;rintro e V1 ⟨rfl,v1,L1,hL1,hl1,hp1,hb1⟩;have HP1:=Hh hp1;have HB1:=Hh (HB0.out.trans hb1);have HL1:=Hh hL1;have hle1:L1.length<=9:=by simpa using hl1
 have hr1:=HR.out.below HB1.out;have c2:V1.cell? ⟨p,2,none⟩=some (.int .i64 (B:Int)):=by rw[<-HBB.out];exact hr1.c rfl
 clear hp1 hb1 hL1 hl1 hr1;go_wp2_with fail;refine(dE w.heap.size B (by omega) _ L1 (by omega) _ HP1.out).mono ?_;rintro e V2 ⟨rfl,v2,L2,hL2,hl2,hp2,hb2⟩;have HP2:=Hh hp2;have HB2:=Hh (HB1.out.trans hb2);have HL2:=Hh hL2;have hle2:L2.length<=18:=by omega
 have hr2:=HR.out.below HB2.out;have c3:V2.cell? ⟨p,3,none⟩=some (.int .i64 f):=by rw[<-HFF.out];exact hr2.c rfl
 clear hp2 hb2 hL2 hl2 hr2 c2;go_wp2_with fail;refine(dE w.heap.size F (by omega) _ L2 (by omega) _ HP2.out).mono ?_;rintro e Y ⟨rfl,v3,L3,hL3,hl3,hp3,hb3⟩;have HP3:=Hh hp3;have N:=Hh (HB2.out.trans hb3);have hle3:L3.length<=27:=by omega
 have HL3:=Hh (show L3=bT R.bt R.bf by rw[a2.out,hL3,HL2.out,HL1.out];simp);have a1:=Hh (HR.out.below N.out);clear hp3 hb3 hL3 hl3 c3;go_wp2_with fail;refine fx (S:=PZ p) ?_;have v:Below Y.heap.size Y Y.drew:=(Below.refl _ _).drew;have T:=Hh (a1.out.below v);have x:PZ p Y.drew:=⟨T.out.lt⟩
 refine hT 0 19 x ?_;refine hT 1 20 x ?_;refine hT 2 21 x ?_;refine hT 3 22 x ?_;have a0:=Hh x;clear x;apply wR (fun U n y c4=>ph p R M w L3 U n y c4);intro z;refine nU 4 5 ?_ ?_
 ·have p4:=T.out.tails.2.1;go_simp;clear p4;refine⟨a0.out,?_⟩;refine bp 5 ?_;go_simp;refine(du w.heap.size _ L3 (by omega) _ (HP3.out.below v)).mono ?_;rintro e i ⟨y,c4,rfl, -,d,C⟩;have l:PZ p i:=⟨Nat.lt_of_lt_of_le a0.out.s d.size⟩
  obtain⟨U,G⟩:∃U,U=i.alloc (.cells #[.slice y L3.length c4] 27):=⟨_,rfl⟩
  have k:Below i.heap.size i U:=by rw[G];exact(Below.refl _ _).alloc (Nat.le_refl _) _
  have b:Below Y.heap.size Y U:=v.trans (d.trans (k.mono d.size));have o:ph p R M w L3 U i.heap.size y c4:=by refine⟨a1.out.below b,?_,(OwnBs.of_own C (by omega)).below k,N.out.trans (b.mono N.out.size)⟩;rw[show U.heap.size=i.heap.size+1 by rw[G];simp,G];exact dr i _ _
  have H:PZ p U:=⟨o.rf.lt⟩
  have p9:=T.out.below d;have HP9:=Hh p9;have HU:=Hh G;have L:=Hh o;have J:=Hh H;have HS9:=Hh l;clear d C G k b o H p9;refine⟨l,?_⟩;clear l;refine bp 6 ?_;go_simp;rw[<-HU.out];refine⟨J.out,?_⟩;have a:=L.out;generalize i.heap.size=n at a ⊢;exact z U n y c4 a
 ·go_simp;refine(du w.heap.size _ L3 (by omega) _ (HP3.out.below v)).mono ?_;rintro e i ⟨y,c4,rfl, -,d,C⟩;have l:PZ p i:=⟨Nat.lt_of_lt_of_le a0.out.s d.size⟩
  obtain⟨U,G⟩:∃U,U=i.alloc (.cells #[.slice y L3.length c4] 27):=⟨_,rfl⟩
  have k:Below i.heap.size i U:=by rw[G];exact(Below.refl _ _).alloc (Nat.le_refl _) _
  have b:Below Y.heap.size Y U:=v.trans (d.trans (k.mono d.size));have o:ph p R M w L3 U i.heap.size y c4:=by refine⟨a1.out.below b,?_,(OwnBs.of_own C (by omega)).below k,N.out.trans (b.mono N.out.size)⟩;rw[show U.heap.size=i.heap.size+1 by rw[G];simp,G];exact dr i _ _
  have H:PZ p U:=⟨o.rf.lt⟩
  have p9:=T.out.below d;have HP9:=Hh p9;have HU:=Hh G;have L:=Hh o;have J:=Hh H;have HS9:=Hh l;clear d C G k b o H p9;refine⟨l,?_⟩;clear l;refine nU 4 6 ?_ ?_
  ·have p4:=HP9.out.tails.2.1;go_simp;clear p4;refine⟨HS9.out,?_⟩;refine bp 6 ?_;go_simp;rw[<-HU.out];refine⟨J.out,?_⟩;have a:=L.out;generalize i.heap.size=n at a ⊢;exact z U n y c4 a
  ·go_simp;rw[<-HU.out];refine⟨J.out,?_⟩;refine bp 4 ?_;have p4:=L.out.rf.tails.2.1;go_simp;clear p4;refine⟨J.out,?_⟩;have a:=L.out;generalize i.heap.size=n at a ⊢;exact z U n y c4 a
 intro U n y c4 a;have q:=Hh a.rf;have HIT:=Hh a.it;have HBY:=Hh a.by_;have HBU:=Hh a.bel;clear a;refine bp 7 ?_;refine aS U (.tmp 23) (.tmp 25) 29 rfl 0 27 j0 (.slice none 0 0) 1 24 Tryz.underlying29 gi gz0 gz1 gz2 rfl (by decide) (.slice M.na M.ns.length M.nc) M.ns.length (M.ns.map aV.cell) rfl q.out.nw U.heap.size (some ⟨n,0,none⟩) 1 1 [.slice y L3.length c4] rfl HIT.out (by intro u hu;simp at hu;subst hu;rfl) (by unfold maxLen;omega) (by omega) (Nat.zero_le _) ?_;intro a11 c11 I o11 P D;obtain⟨r,A⟩:=q.out.note (m:=⟨y,c4,L3⟩) HBY.out o11 P D;have g:I.heap[p]? =some (.cells (aP R M).toArray 84 (0,0)):=(P.block p q.out.lt (fun e=>q.out.apart.2.2.1 (by rw[al]at e;exact e.symm))).trans q.out.row;have t:PZ p I:=⟨Nat.lt_of_lt_of_le q.out.lt P.size⟩
 have p2:I.cell? ⟨p,33,none⟩=some (.slice M.na M.ns.length M.nc):=by rw[cell_of_row _ _ _ _ _ _ g,List.getElem?_toArray];exact ea q.out.sv (j:=1) (by omega)
 have f2:I.frozen? ⟨p,33,none⟩=false:=frozen_of_row _ _ _ _ _ g;refine⟨t,?_⟩;go_simp;refine hT 8 27 t ?_;refine hT 9 28 t ?_;refine bp 10 ?_;refine aj 29 (.tmp 28) (.tmp 26) rfl p 33 (.slice a11 (M.ns.length+1) c11) _ rfl rfl rfl gM p2 f2 ?_;obtain⟨Z,V⟩:∃Z,Z=I.setCell ⟨p,33,none⟩ (.slice a11 (M.ns.length+1) c11):=⟨_,rfl⟩
 rw[<-V]at r A ⊢;have HR12:=Hh r;have HT12:=Hh A;have X:PZ p Z:=⟨r.lt⟩
 refine⟨X,dc ?_⟩;clear t X p2 f2 g r A V o11 P D v;go_wp2;go_end0;refine⟨rfl,_,?_,ah.trans (.ofBelow HBU.out) HT12.out⟩;rw[show R.noteBallot={ R with news:=R.news++ [L3] } by rw[HL3.out];rfl];exact HR12.out
theorem kL{w:World}{B e a n:Nat}{v:Value}{xs:List Value}(h:w.ownsRow B e a v n xs):w.ownsRow 0 e a v n xs:=by
 refine⟨h.1,?_⟩;rcases h.2 with⟨b,d⟩ | ⟨g,c,cur,b,i,f⟩
 ·exact .inl ⟨b,d⟩
 ·exact .inr ⟨g,c,cur,b,Nat.zero_le _,f⟩
theorem ao.notNew{w:World}{p:Nat}{R:aa}{M:ay}(h:ao w p R M){b:Nat}(d:w.heap.size<=b):¬M.own p b:=fun c=>by
 rcases c with e | e | e | e | e
 ·have:=h.lt;omega
 ·have:=(Array.getElem?_eq_some_iff.1 h.ln.row).1;omega
 ·obtain⟨cur,a⟩:=au h.ln.own e;have:=(Array.getElem?_eq_some_iff.1 a).1;omega
 ·obtain⟨cur,a⟩:=au h.nw e;have:=(Array.getElem?_eq_some_iff.1 a).1;omega
 ·obtain⟨cur,a⟩:=au h.ou e;have:=(Array.getElem?_eq_some_iff.1 a).1;omega
structure PB (p b:Nat) (x:ax) (ia:Option Addr) (n ic:Nat) (ba:Option Addr) (bc:Nat) (W:World):Prop where
 s:p<W.heap.size
 b:W.heap[b]? =some (.cells (aF x ia n ic ba bc) 32 (0,0))
theorem oI(p:Nat)(R:aa)(M:ay)(who:Int)(x:ax)(ia:Option Addr)(il ic:Nat)(ba:Option Addr)(bc:Nat)(hn:R.out.length<=1000000000)(w:World)(h:ao w p R M){ms:List af}(X:ms.length=il)(hmA:cz.At w ⟨who,x,ia,ic,ms,ba,bc⟩)(hmN:∀k,ia.map (·.block)=some k->¬M.own p k):
  Calls Tryz.prog 67 #[.pointer (some ⟨p,0,none⟩), .int .i64 who, .agg (aF x ia il ic ba bc)] w fun e w'=>e= .returned (.tuple #[])/\∃M',ao w' p (R.post who x) M'/\ah p M M' w w'/\M'.lb=M.lb:=by
 obtain⟨j0,gi,gz0,gz1,gz2⟩:=info_parts vI;obtain⟨y,hy⟩:∃y:ax,y={ x with t:=R.bt }:=⟨_,rfl⟩
 obtain⟨V,hV⟩:∃V,V=w.alloc (.cells #[.int .i64 x.k, .int .i64 R.bt, .int .i64 x.a, .int .i64 x.u, .int .i64 x.o, .bool x.y, .slice ia il ic, .slice ba x.b.length bc] 32):=⟨_,rfl⟩
 have z:V.heap[w.heap.size]? =some (.cells (aF y ia il ic ba bc) 32 (0,0)):=by rw[hV,hy];exact heap_alloc_new w _
 have O:Below w.heap.size w V:=by rw[hV];exact(Below.refl _ _).alloc (Nat.le_refl _) _
 have hpl:=h.lt;have HBV:=Hh O;have HMA:=Hh (show cz.At w ⟨who,y,ia,ic,ms,ba,bc⟩ by rw[hy];exact⟨hmA.own,hmA.eq,hmA.b⟩);have HMN:=Hh hmN;have HIL:=Hh X;clear hmA hmN X;have D:=Hh z;have HRV:=Hh (h.below O);have hon:M.on<=1000000000:=by rw[h.oq];exact hn
 have P:=Hh (show R.post who x={ R with out:=R.out++ [(who,y)] } by rw[hy];rfl);have c2:(w.alloc (.cells (aF x ia il ic ba bc) 32)).cell? ⟨p,2,none⟩=some (.int .i64 R.bt):=(h.below ((Below.refl _ _).alloc (Nat.le_refl _) _)).c rfl;have HV:=Hh hV;clear hV z O h hn hy;go_enter Tryz.func67,Tryz.ntmps67
 go_wp2_with fail;rw[<-HV.out];clear c2;refine fx (S:=PB p w.heap.size y ia il ic ba bc) ?_;have N:Below V.heap.size V V.drew:=(Below.refl _ _).drew;have L:=HRV.out.below N;have T:w.heap.size<V.heap.size:=(Array.getElem?_eq_some_iff.1 D.out).1;have i:PB p w.heap.size y ia il ic ba bc V.drew:=⟨L.lt,(N.block _ T).trans D.out⟩
 have HR9:=Hh L;clear L;refine hT 0 12 i ?_;refine hT 1 13 i ?_;refine hT 2 14 i ?_;refine hT 3 15 i ?_;refine hT 5 17 i ?_;refine aG 6 18 (v:= .agg (aF y ia il ic ba bc)) rfl rfl (by kernel_rfl) (by kernel_rfl) (by kernel_rfl) (fun _ _ _ h=>h) i (.inl ⟨by rfl,by intro w' hS;obtain⟨c0,c1,c2,c3,c4,c5,c6,c7⟩:=aq hS.b;clear hS;go_simp;(try (all_goals rfl))⟩) ?_;simp only[List.set_cons_zero,List.set_cons_succ];refine aG 7 19 (v:= .agg #[.int .i64 who, .int .i64 y.k, .int .i64 y.t, .int .i64 y.a, .int .i64 y.u, .int .i64 y.o, .bool y.y, .slice ia il ic, .slice ba y.b.length bc]) rfl rfl (by kernel_rfl) (by kernel_rfl) (by kernel_rfl) (fun _ _ _ h=>h) i (.inl ⟨by rfl,by intro w' hS;clear hS;go_simp;(try (all_goals rfl))⟩) ?_;simp only[List.set_cons_zero,List.set_cons_succ];have HS0:=Hh i;clear i;obtain⟨U,Z⟩:∃U,U=(V.alloc (.cells #[.int .i64 who, .int .i64 y.k, .int .i64 y.t, .int .i64 y.a, .int .i64 y.u, .int .i64 y.o, .bool y.y, .slice ia il ic, .slice ba y.b.length bc] 102)).drew:=⟨_,rfl⟩
 have F:Below V.heap.size V U:=by rw[Z];exact((Below.refl _ _).alloc (Nat.le_refl _) _).drew
 have hsU:U.heap.size=V.heap.size+1:=by rw[Z];simp
 have d:=Hh (HRV.out.below F);have HBU:=Hh (HBV.out.trans (F.mono HBV.out.size));have HIT:=Hh (show SlAt U U.heap.size 9 (some ⟨V.heap.size,0,none⟩) 1 1 [.int .i64 who, .int .i64 y.k, .int .i64 y.t, .int .i64 y.a, .int .i64 y.u, .int .i64 y.o, .bool y.y, .slice ia il ic, .slice ba y.b.length bc] from by rw[hsU,Z];exact(cw V #[.int .i64 who, .int .i64 y.k, .int .i64 y.t, .int .i64 y.a, .int .i64 y.u, .int .i64 y.o, .bool y.y, .slice ia il ic, .slice ba y.b.length bc] 102 9 rfl).below (show Below (V.heap.size+1) (V.alloc (.cells #[.int .i64 who, .int .i64 y.k, .int .i64 y.t, .int .i64 y.a, .int .i64 y.u, .int .i64 y.o, .bool y.y, .slice ia il ic, .slice ba y.b.length bc] 102)) _ from(Below.refl _ _).drew) (Nat.le_refl _))
 have r:=Hh (show PB p w.heap.size y ia il ic ba bc U from⟨d.out.lt,(F.block _ T).trans D.out⟩);have HU:=Hh Z;clear Z F;apply tR (fun U'=>U'=U);intro H;refine nU 4 8 ?_ ?_
 ·have p4:=HR9.out.tails.2.2;go_simp;clear p4;refine⟨HS0.out,?_⟩;refine bp 8 ?_;go_simp;rw[<-HU.out];refine⟨r.out,?_⟩;exact H U rfl
 ·go_simp;rw[<-HU.out];refine⟨r.out,?_⟩;refine bp 4 ?_;have p4:=d.out.tails.2.2;go_simp;clear p4;refine⟨r.out,?_⟩;exact H U rfl
 rintro U' rfl;refine bp 9 ?_;refine aS U' (.tmp 16) (.tmp 20) 51 rfl 0 102 j0 (.agg #[iz 0,iz 0,iz 0,iz 0,iz 0,iz 0, .bool false, .slice none 0 0, .slice none 0 0]) 9 104 Tryz.underlying51 gi gz0 gz1 gz2 rfl (by decide) (.slice M.oa M.on M.oc) M.on M.ocs rfl d.out.ou U'.heap.size (some ⟨V.heap.size,0,none⟩) 1 1 _ rfl HIT.out (by intro u hu;simp at hu;rcases hu with rfl | rfl | rfl | rfl | rfl | rfl | rfl | rfl | rfl<;>rfl) (by unfold maxLen;omega) (by omega) (Nat.zero_le _) ?_;intro a1 a0 q J C A;have W:cz.At U' ⟨who,y,ia,ic,ms,ba,bc⟩:=HMA.out.below HBU.out;have Y:cz.cells ⟨who,y,ia,ic,ms,ba,bc⟩= [.int .i64 who, .int .i64 y.k, .int .i64 y.t, .int .i64 y.a, .int .i64 y.u, .int .i64 y.o, .bool y.y, .slice ia il ic, .slice ba y.b.length bc]:=by rw[<-HIL.out];rfl
 rw[<-Y]at J;obtain⟨l,s⟩:=d.out.posted W HMN.out J C A;clear W Y;have f:q.heap[p]? =some (.cells (aP R M).toArray 84 (0,0)):=(C.block p d.out.lt (fun e=>d.out.apart.2.2.2.1 (by rw[al]at e;exact e.symm))).trans d.out.row;have g:q.heap[w.heap.size]? =some (.cells (aF y ia il ic ba bc) 32 (0,0)):=(C.block w.heap.size (Array.getElem?_eq_some_iff.1 r.out.b).1 (fun e=>by rw[al]at e;obtain⟨cur,hc⟩:=au d.out.ou e.symm;exact absurd (aB r.out.b hc) (by decide))).trans r.out.b
 have n:PB p w.heap.size y ia il ic ba bc q:=⟨Nat.lt_of_lt_of_le d.out.lt C.size,g⟩
 have p2:q.cell? ⟨p,34,none⟩=some (.slice M.oa M.on M.oc):=by rw[cell_of_row _ _ _ _ _ _ f,List.getElem?_toArray];exact ea d.out.sv (j:=2) (by omega)
 have f2:q.frozen? ⟨p,34,none⟩=false:=frozen_of_row _ _ _ _ _ f;refine⟨n,?_⟩;go_simp;refine hT 10 22 n ?_;refine hT 11 23 n ?_;refine bp 12 ?_;refine aj 51 (.tmp 23) (.tmp 21) rfl p 34 (.slice a1 (M.on+1) a0) _ rfl rfl rfl ux p2 f2 ?_;obtain⟨G,B⟩:∃G,G=q.setCell ⟨p,34,none⟩ (.slice a1 (M.on+1) a0):=⟨_,rfl⟩
 have m:G.heap[w.heap.size]? =some (.cells (aF y ia il ic ba bc) 32 (0,0)):=by rw[B];exact(Below.heap_setCell _ _ _ _ (by show w.heap.size≠p;omega)).trans g
 rw[<-B]at l s ⊢;have HR12:=Hh l;have HT12:=Hh s;have I:PB p w.heap.size y ia il ic ba bc G:=⟨l.lt,m⟩
 refine⟨I,dc ?_⟩;clear n I p2 f2 f l s B J C A N g m;go_wp2;go_end0;refine⟨rfl,_,?_,ah.trans (.ofBelow HBU.out) HT12.out,rfl⟩;rw[P.out];exact HR12.out
theorem qv(p:Nat)(R:aa)(M:ay)(who:Int)(x:ax)(ia:Option Addr)(il ic:Nat)(ba:Option Addr)(bc:Nat)(hn:R.out.length<=1000000000)(w:World)(h:ao w p R M){ms:List af}(a:ms.length=il)(hmA:cz.At w ⟨who,x,ia,ic,ms,ba,bc⟩)(hmN:∀k,ia.map (·.block)=some k->¬M.own p k):
  Calls Tryz.prog 67 #[.pointer (some ⟨p,0,none⟩), .int .i64 who, .agg (aF x ia il ic ba bc)] w fun e w'=>e= .returned (.tuple #[])/\∃M',ao w' p (R.post who x) M'/\ah p M M' w w':=
 (oI p R M who x ia il ic ba bc hn w h a hmA hmN).mono fun e w' ⟨d,M',c,b,_⟩=>⟨d,M',c,b⟩
theorem iU(l:List UInt8)(a:Option Addr)(c:Nat)(w:World)(h:aM w w.heap.size a l.length c l):
  Calls Tryz.prog 55 #[.slice a l.length c] w fun e w'=>∃a' c',e= .returned (.slice a' l.length c')/\cS w' a' c' l/\Below w.heap.size w w':=
 (nI l a l.length c w h).mono fun e w' ⟨a',c',f,_,d,b⟩=>⟨a',c',f,OwnBs.of_own b h.hbig,d⟩
theorem xM(w:World):cS w none 0 []:=⟨aM.zero _ _ _ _ (by simp[maxLen]) (fun _=>rfl),fun h=>by simp at h⟩
theorem qB(w:World):d8 w 0 none 0 []:=⟨⟨rfl, .inl ⟨rfl,rfl⟩⟩,by simp⟩
theorem cO(p:Nat)(R:aa)(M:ay)(who:Int)(x:ax)(hx:x.its= [])(hb:x.b= [])(hn:R.out.length<=1000000000)(w:World)(h:ao w p R M):
  Calls Tryz.prog 67 #[.pointer (some ⟨p,0,none⟩), .int .i64 who, .agg (aF x none 0 0 none 0)] w fun e w'=>e= .returned (.tuple #[])/\∃M',ao w' p (R.post who x) M'/\ah p M M' w w':=
 qv p R M who x none 0 0 none 0 hn w h (ms:= []) rfl ⟨qB w,by rw[hx];rfl,by show cS w none 0 x.b;rw[hb];exact xM w⟩ (fun k a=>by cases a)
theorem vj(q:Nat)(v:Value)(l:List UInt8)(hl:l.length<=1000000)(m:List UInt8)(am:Option Addr)(c:Nat)(hn:m.length<=1000000)(w:World)(hm:∀w1 v1,cM q v w w1 v1->aM w1 w1.heap.size am m.length c m)(h:cy 5 w q v l):
  Calls Tryz.prog 36 #[.pointer (some ⟨q,0,none⟩), .slice am m.length c] w fun e w'=>e= .returned (.tuple #[])/\∃v',cy 5 w' q v' (l++bN m)/\cM q v w w' v':=by
 obtain⟨t,z,p,o,n⟩:=info_parts pI;have H:=Hh h;have I:=Hh hm;clear h hm;go_enter Tryz.func36,Tryz.ntmps36
 go_wp2_with fail;refine(kK q m.length (by omega) v l hl w H.out).mono ?_;rintro e w1 ⟨rfl,v1,b,g⟩;have s:=Hh (I.out _ _ g);obtain⟨L,k⟩:∃L,L=l++aC m.length:=⟨_,rfl⟩
 have y:L.length<=1000009:=by have:=mn (show m.length<18446744073709551616 by omega);rw[k];simp[aC];omega
 rw[<-k]at b;have J:=Hh k;have i:=Hh b;have r:=Hh g;have D:=b.cell;have B:=b.free;have x:=b.lt;clear b g k;go_wp2_with (at_builtin;refine bU _ rfl _ _ 27 rfl (q+1) 5 t (.int .u8 0) 1 1 Tryz.underlying27 z p o n rfl (by decide) _ _ _ rfl i.out.own w1.heap.size am m.length c (m.map bv) rfl s.out.sl (lK _) ?c1 ?c2 ?c3 ?_)
 case c1=>unfold maxLen;omega
 case c2=>omega
 case c3=>omega
 intro O c2 N d a j;obtain⟨C,A⟩:=i.out.far a;have f:=i.out.append d a j;have M:=Hh f;clear d a j f;go_wp2;go_end0;obtain⟨G,F⟩:=M.out;exact⟨rfl,_,by rw[bN,<-List.append_assoc,<-J.out];exact G,r.out.trans F⟩
theorem cM.apart{q B:Nat}{v f:Value}{w w1:World}(h:cM q v w w1 f){a:Option Addr}{c:Nat}{m:List UInt8}(b:w.ownsRow B 5 1 (.slice a m.length c) m.length (m.map bv))(hm:m.length<=1000000)(hq:q<B)(hv:∀k,v.ownBlock=some k->k<B):aM w1 w1.heap.size a m.length c m:=by
 have i:=aE b (w':=w1) fun g d=>h.block g (own_lt b d).2 (by have:=(own_lt b d).1;omega) (fun e=>by have:=(own_lt b d).1;have:=hv g e;omega)
 obtain⟨a',l,e,j⟩:=dG i (by omega);injection e with e1 _ e2;subst e1;subst e2;exact j
theorem cy.own_lt{w:World}{q:Nat}{v:Value}{l:List UInt8}(h:cy 5 w q v l):∀k,v.ownBlock=some k->k<w.heap.size:=fun k a=>(Go.Proofs.YtogcnfhmcpkdcaaGreat.own_lt h.own a).2
theorem mS(p:Nat)(R:aa)(M:ay)(hb0:0<=R.bt)(hb1:R.bt<=1099511627776)(hf0: -1<=R.bf)(hf1:R.bf<=6)(hg:R.line.Good)(hlp:R.line.put.length<=900000)(hsl:R.state.length<=70000)(w:World)(h:ao w p R M):
  Calls Tryz.prog 10 #[.pointer (some ⟨p,0,none⟩)] w fun e w'=>∃a c,e= .returned (.slice a R.head.length c)/\cS w' a c R.head/\Below w.heap.size w w'/\w'.ownsRow w.heap.size 5 1 (.slice a R.head.length c) R.head.length (R.head.map bv):=by
 obtain⟨B,U⟩:∃B:Nat,R.bt=B:=⟨R.bt.toNat,by omega⟩
 obtain⟨F,hF⟩:∃F:Nat,R.bf+1=F:=⟨(R.bf+1).toNat,by omega⟩
 obtain⟨f,hf⟩:∃f:Int,R.bf=f:=⟨_,rfl⟩
 have w1:IntKind.u64.wrap (B:Int)=B:=IntWalk.u64_in _ (by omega);have w2:IntKind.i64.wrap (f+1)=(F:Int):=by rw[<-hf,hF];exact IntWalk.i64_in _ (by omega)
 have w3:IntKind.u64.wrap (F:Int)=F:=IntWalk.u64_in _ (by omega);have hB1:B<=1099511627776:=by omega
 have hF1:F<=7:=by omega
 have m:=Hh (show R.head=aC B++(aC F++(bN R.line.put++bN R.state)) by rw[aa.head,U,hF];simp);obtain⟨V,b⟩:∃V,V=w.alloc (.cells #[.slice none 0 0] 86):=⟨_,rfl⟩
 have HW0:=Hh b;have j:Below w.heap.size w V:=by rw[b];exact(Below.refl _ _).alloc (Nat.le_refl _) _
 have z:=pA (w:=w) (W:=V) (by rw[b];exact heap_alloc_new w _);have HP0:=Hh z;have HB0:=Hh j;have Y:=Hh h;have HBB:=Hh U;have HFF:=Hh hf;have HG:=Hh hg;have hpl:=h.lt;have c2:(w.alloc (.cells #[.slice none 0 0] 86)).cell? ⟨p,2,none⟩=some (.int .i64 (B:Int)):=by rw[<-U,<-b];exact(h.below j).c rfl
 clear U hF hf b j z h hb0 hb1 hf0 hf1 hg;go_enter Tryz.func10,Tryz.ntmps10
 go_wp2_with fail;rw[<-HW0.out];refine(dE w.heap.size B (by omega) _ [] (by simp) _ HP0.out).mono ?_;rintro e V1 ⟨rfl,v1,L1,N,D,y,hb1⟩;have HP1:=Hh y;have T:=Hh (HB0.out.trans hb1);have HL1:=Hh N;have hle1:L1.length<=9:=by simpa using D
 have t:=Y.out.below T.out;have c3:V1.cell? ⟨p,3,none⟩=some (.int .i64 f):=by rw[<-HFF.out];exact t.c rfl
 clear y hb1 N D t c2;go_wp2_with fail;refine(dE w.heap.size F (by omega) _ L1 (by omega) _ HP1.out).mono ?_;rintro e V2 ⟨rfl,v2,L2,L,a1,x,I⟩;have l:=Hh x;have q:=Hh (T.out.trans I);have HL2:=Hh L;have hle2:L2.length<=18:=by omega
 have g:=Y.out.below q.out;have c4:V2.cell? ⟨p,4,none⟩=some (.pointer (some ⟨M.lb,0,none⟩)):=g.c rfl;have S:=Hh g.ln;clear x I L a1 g c3;go_wp2_with fail;refine(vB 0 M.lb R.line HG.out M.la M.lc M.ms _ S.out hlp).mono ?_;rintro e V3 ⟨pa,pc,rfl, -,k,C⟩;have O:=Hh (l.out.below k);have HB3:=Hh (q.out.trans (k.mono q.out.size));have HO3:=Hh C;have HV2:=Hh l.out.own_lt;have Z:w.heap.size<V2.heap.size:=l.out.lt;clear k C c4;go_wp2_with fail;refine(vj w.heap.size v2 L2 (by omega) R.line.put pa pc (by omega) _ (fun w1 v1 ht=>ht.apart HO3.out (by omega) Z HV2.out) O.out).mono ?_;rintro e V4 ⟨rfl,v4,i,r⟩;obtain⟨X,d⟩:∃X,X=L2++bN R.line.put:=⟨_,rfl⟩
 rw[<-d]at i;have hle4:X.length<=900100:=by rw[d,List.length_append,bN,List.length_append];have:=ck (show R.line.put.length<18446744073709551616 by omega);omega
 have HL4:=Hh d;have HP4:=Hh i;have o:=Hh (HB3.out.trans (r.below O.out (Nat.le_refl _)));have s:=Y.out.below o.out;have c5:V4.cell? ⟨p,5,none⟩=some (.slice M.sa R.state.length M.sc):=s.c rfl;have HST:=Hh ((show aM w w.heap.size M.sa R.state.length M.sc R.state from Y.out.st.1).below o.out (Nat.le_refl _));clear i r d s;go_wp2_with fail;refine(i9 w.heap.size v4 X (by omega) R.state M.sa R.state.length M.sc (by omega) _ HST.out HP4.out).mono ?_;rintro e V5 ⟨rfl,v5,L5,J,a0,v,H⟩;have HP5:=Hh v;have n:=Hh (o.out.trans H);have hle5:L5.length<=980000:=by omega
 have HL5:=Hh (show L5=R.head by rw[m.out,J,HL4.out,HL2.out,HL1.out];simp);clear v H J a0 c5;go_wp2_with fail;refine(du w.heap.size v5 L5 (by omega) _ HP5.out).mono ?_;rintro e V6 ⟨a6,c6,rfl, -,G,A⟩;have P:=Hh (World.ownsRow.mono A n.out.size);have HB6:=Hh (n.out.trans (G.mono n.out.size));clear G A;go_wp2;go_ret;rw[<-HL5.out];exact⟨a6,c6,rfl,OwnBs.of_own P.out (by omega),HB6.out,P.out⟩
theorem nz(a:Int)(l:List ar)(x:ar):cq a (l++ [x])=cq a l++ [dy (a+(l.length:Int)) x]:=by
 induction l generalizing a with
 | nil=>simp[cq]
 | cons y l ih=>simp[cq,ih];congr 1;omega
theorem sE{x:ae}(b:x.Good)(i most:Int):∀it∈x.from_ i most,bj it=true:=by
 intro it a;unfold ae.from_ at a;split at a
 ·simp at a
 ·exact b.its it (List.mem_of_mem_drop (List.mem_of_mem_take a))
theorem ao.items{w w':World}{p:Nat}{R:aa}{M M':ay}(h:ao w p R M)(ht:ah p M M' w w'){B:Nat}{n:Option Addr}{l:Nat}{a:List af}(f:w.ownsRow B 40 2 (.slice n a.length l) a.length (aK a))(hb:∀m∈a,OwnBs 5 w m)(hl:∀k,M.la.map (·.block)=some k->k<B):
  w'.ownsRow B 40 2 (.slice n a.length l) a.length (aK a)/\∀m∈a,OwnBs 5 w' m:=by
 refine⟨aE f fun g o=> ?_,fun m s=>OwnBs.grown (T:=5) (hb m s) (fun k x fr t b=>ht.block k t (h.notU8 b)) ht.size⟩;have i:=own_lt f o;obtain⟨cur,b⟩:=fz f o;obtain⟨-,r, -, -, -,q, -, -, -,d,c, -, -, -, -⟩:=iC;refine ht.block g i.2 fun v=> ?_
 rcases v with e | e | e | e | e
 ·rw[e]at b;exact r (aB h.row b)
 ·rw[e]at b;exact q (aB h.ln.row b)
 ·have:=hl g e;omega
 ·obtain⟨c2,j⟩:=au h.nw e;exact d (aB b j)
 ·obtain⟨c2,j⟩:=au h.ou e;exact c (aB b j)
structure NL (w:World) (p:Nat) (R:aa) (M:ay) (A:Int) (os:List af) (ia:Option Addr) (ic:Nat) (j:Nat) (S:aa) (N:ay) (wr:World):Prop where
 rf:ao wr p S N
 tu:ah p M N w wr
 own:wr.ownsRow w.heap.size 40 2 (.slice ia os.length ic) os.length (aK os)
 bs:∀m∈os,OwnBs 5 wr m
 sn:S={ R with news:=R.news++cq A ((os.take j).map af.it) }
 la:∀k,N.la.map (·.block)=some k->k<w.heap.size
 nl:N.ns.length=M.ns.length+j
theorem fW(p:Nat)(R:aa)(M:ay)(A:Int)(ha0:0<=A)(ha1:A<=1099511627776)(hg:R.line.Good)(hn:R.news.length<=1000000000)(w:World)(h:ao w p R M):
  Calls Tryz.prog 51 #[.pointer (some ⟨p,0,none⟩), .int .i64 A] w fun e w'=>e= .returned (.tuple #[])/\∃M',ao w' p (R.noteItems A) M'/\ah p M M' w w':=by
 obtain⟨j0,gi,gz0,gz1,gz2⟩:=info_parts gN;have hns:M.ns.length<=1000000000:=by rw[<-h.nq]at hn;simpa using hn
 have c4:=h.c (i:=4) (v:= .pointer (some ⟨M.lb,0,none⟩)) rfl;have HLN:=Hh h.ln;have HG:=Hh hg;have HR:=Hh h;have HLA:=Hh (show ∀k,M.la.map (·.block)=some k->k<w.heap.size from fun k hk=>by obtain⟨cur,hc⟩:=au h.ln.own hk;exact(Array.getElem?_eq_some_iff.1 hc).1);have hq:(R.line.from_ A 4096).length<=4096:=by
  unfold ae.from_;split
  ·simp
  ·simp[List.length_take];omega
 have HRI:=Hh (sE hg A 4096);clear h hg hn;go_enter Tryz.func51,Tryz.ntmps51
 go_wp2_with fail;refine(kQ 0 M.lb R.line HG.out M.la M.lc M.ms A 4096 _ HLN.out).mono ?_;rintro e w1 ⟨ia,ic,r,rfl,a0,a2,P⟩;have hol:r.length<=4096:=by rw[<-a2]at hq;simpa using hq
 have HMAP:=Hh a2;have HOR:=Hh (show ∀m∈r,bj m.it=true from fun m hm=>HRI.out m.it (by rw[<-HMAP.out];exact List.mem_map_of_mem hm));have HNL:=Hh (show NL w p R M A r ia ic 0 R M w1 from⟨HR.out.below P, .ofBelow P,a0.own,a0.bs,by simp[cq],HLA.out,rfl⟩);clear a0 P a2 hq c4;go_wp2_with fail;obtain⟨wo,rfl⟩:∃wo:World,wo=w1:=⟨_,rfl⟩
 go_loopw [14] (fun iv wr=>∃(j:Nat) (S:aa) (N:ay),iv= .int .i64 j/\j<=r.length/\NL w p R M A r ia ic j S N wr) (fun iv _=>r.length-(intOf iv).toNat)
 case atStart=>exact⟨0,R,M,rfl,by omega,HNL.out⟩
 case round=>
  obtain⟨j,S,N,rfl,hj,hnl⟩:=hrel;have J:=Hh hnl;have hnn:N.ns.length<=1000010000:=by have:=hnl.nl;omega
  clear hnl;by_cases L:j<r.length
  ·have tj:decide ((j:Int)<(r.length:Int))=true:=by simpa using L
   have hk0:(0:Int)<=(j:Int):=by omega
   have hk1:(j:Int)<(r.length:Int):=by omega
   obtain⟨m,hm⟩:∃m,r[j]? =some m:=⟨_,List.getElem?_eq_getElem L⟩
   have hmm:=List.mem_of_getElem? hm;obtain⟨a9,c9,e9,hs9⟩:=SlAt.ofOwns J.out.own;injection e9 with e10 _ e12;subst e10;subst e12;obtain⟨b,o,rfl,hb,hc⟩:=hs9.hat (by have:=eM r;omega);have hcl:=eM r;obtain⟨e0,e1⟩:=dF r j m hm;have hmb:=(J.out.bs m hmm).1;have hmn:m.n=m.b.length:=hmb.hlen.symm;rw[hmn]at e1;have k0:wr.cell? ⟨b,o+j*2,none⟩=some (.int .i64 m.t):=(hc _ (by omega)).trans e0;have k1:wr.cell? ⟨b,o+j*2+1,none⟩=some (.slice m.a m.b.length m.c):=by rw[Nat.add_assoc];exact(hc _ (by omega)).trans e1
   have hri:=(br _).1 (HOR.out m hmm);obtain⟨T,hT⟩:∃T:Nat,m.t=T:=⟨m.t.toNat,by have h0:0<=m.t:=hri.1;omega⟩
   obtain⟨D,hD⟩:∃D:Nat,A+(j:Int)=D:=⟨(A+(j:Int)).toNat,by omega⟩
   have hT1:T<=1099511627776:=by have h0:m.t<=1099511627776:=hri.2.1;omega
   have hD1:D<=1099511700000:=by omega
   have hb8:m.b.length<=8192:=hri.2.2;rw[hT]at k0;have w1:IntKind.u64.wrap (T:Int)=T:=IntWalk.u64_in _ (by omega);have w2:IntKind.i64.wrap (A+(j:Int))=(D:Int):=by rw[hD];exact IntWalk.i64_in _ (by omega)
   have w3:IntKind.u64.wrap (D:Int)=D:=IntWalk.u64_in _ (by omega);have HNOTE:=Hh (show dy (A+(j:Int)) m.it=aC 2++(aC D++(aC T++bN m.b)) by rw[dy,hD,show m.it.1=m.t from rfl,hT];simp);obtain⟨l,a6⟩:∃l,l=wr.alloc (.cells #[.int .i64 (T:Int), .slice m.a m.b.length m.c] 40):=⟨_,rfl⟩
   obtain⟨W0,hW0⟩:∃W0,W0=l.alloc (.cells #[.slice none 0 0] 86):=⟨_,rfl⟩
   have hsb:l.heap.size=wr.heap.size+1:=by rw[a6];simp
   have a3:Below wr.heap.size wr l:=by rw[a6];exact(Below.refl _ _).alloc (Nat.le_refl _) _
   have hrb:l.heap[wr.heap.size]? =some (.cells #[.int .i64 (T:Int), .slice m.a m.b.length m.c] 40 (0,0)):=by rw[a6];exact heap_alloc_new wr _
   have hbW:Below l.heap.size l W0:=by rw[hW0];exact(Below.refl _ _).alloc (Nat.le_refl _) _
   have HP0:=Hh (pA (w:=l) (W:=W0) (by rw[hW0];exact heap_alloc_new l _));have HB0:=Hh hbW;have HRB:=Hh hrb;have HBB:=Hh a3;have HMB:=Hh (show aM l l.heap.size m.a m.b.length m.c m.b from by rw[<-hmn];exact(hmb.below a3 (Nat.le_refl _)).mono a3.size);have HWW:=Hh (show W0=(wr.alloc (.cells #[.int .i64 (T:Int), .slice m.a m.b.length m.c] 40)).alloc (.cells #[.slice none 0 0] 86) by rw[hW0,a6]);have HM:=Hh hm;have HSB:=Hh hsb;have HRS:=Hh (J.out.rf.below a3);clear hc e0 e1 hs9 hmn hmb hri hT hD a6 hW0 hsb a3 hrb hbW hm;have hszl:wr.heap.size<l.heap.size:=by rw[HSB.out];omega
   go_wp2_with fail;rw[<-HWW.out];rw[show wr.heap.size+1=l.heap.size from HSB.out.symm];clear k0 k1;refine(dE l.heap.size 2 (by omega) _ [] (by simp) _ HP0.out).mono ?_;rintro e V1 ⟨rfl,v1,L1,hL1,hl1,hp1,P⟩;have HP1:=Hh hp1;have HB1:=Hh (HB0.out.trans P);have HL1:=Hh hL1;have hle1:L1.length<=9:=by simpa using hl1
   clear hp1 P hL1 hl1;go_wp2_with fail;refine(dE l.heap.size D (by omega) _ L1 (by omega) _ HP1.out).mono ?_;rintro e V2 ⟨rfl,v2,L2,hL2,hl2,hp2,hb2⟩;have HP2:=Hh hp2;have HB2:=Hh (HB1.out.trans hb2);have HL2:=Hh hL2;have hle2:L2.length<=18:=by omega
   have k0:V2.cell? ⟨wr.heap.size,0,none⟩=some (.int .i64 (T:Int)):=(HB2.out.cell (p:=⟨wr.heap.size,0,none⟩) hszl).trans (cell_of_row _ _ 0 _ _ _ HRB.out);clear hp2 hb2 hL2 hl2;go_wp2_with fail;refine(dE l.heap.size T (by omega) _ L2 (by omega) _ HP2.out).mono ?_;rintro e V3 ⟨rfl,v3,L3,hL3,hl3,hp3,hb3⟩;have HP3:=Hh hp3;have HB3:=Hh (HB2.out.trans hb3);have HL3:=Hh hL3;have hle3:L3.length<=27:=by omega
   have k1:V3.cell? ⟨wr.heap.size,1,none⟩=some (.slice m.a m.b.length m.c):=(HB3.out.cell (p:=⟨wr.heap.size,1,none⟩) hszl).trans (cell_of_row _ _ 1 _ _ _ HRB.out);have HMB3:=Hh (HMB.out.below HB3.out (Nat.le_refl _));clear hp3 hb3 hL3 hl3 k0;go_wp2_with fail;refine(i9 l.heap.size v3 L3 (by omega) m.b m.a m.b.length m.c (by omega) _ HMB3.out HP3.out).mono ?_;rintro e V4 ⟨rfl,v4,I,hL4,hl4,hp4,hb4⟩;have HP4:=Hh hp4;have HB4:=Hh (HB3.out.trans hb4);have hle4:I.length<=9000:=by omega
   have HL4:=Hh (show I=dy (A+(j:Int)) m.it by rw[HNOTE.out,hL4,HL3.out,HL2.out,HL1.out];simp);have HR4:=Hh (HRS.out.below HB4.out);clear hp4 hb4 hL4 hl4 k1;go_wp2_with fail;refine fx (S:=PZ p) ?_;have O:Below V4.heap.size V4 V4.drew:=(Below.refl _ _).drew;have HR9:=Hh (HR4.out.below O);have V:PZ p V4.drew:=⟨HR9.out.lt⟩
   refine hT 0 32 V ?_;refine hT 1 33 V ?_;refine hT 2 34 V ?_;refine hT 3 35 V ?_;have HS0:=Hh V;clear V;apply wR (fun U n C c4=>ph p S N l I U n C c4);intro X;refine nU 4 5 ?_ ?_
   ·have p4:=HR9.out.tails.2.1;go_simp;clear p4;refine⟨HS0.out,?_⟩;refine bp 5 ?_;go_simp;refine(du l.heap.size _ I (by omega) _ (HP4.out.below O)).mono ?_;rintro e x ⟨C,c4,rfl, -,g,a1⟩;have z:PZ p x:=⟨Nat.lt_of_lt_of_le HS0.out.s g.size⟩
    obtain⟨U,hU⟩:∃U,U=x.alloc (.cells #[.slice C I.length c4] 27):=⟨_,rfl⟩
    have y:Below x.heap.size x U:=by rw[hU];exact(Below.refl _ _).alloc (Nat.le_refl _) _
    have f:Below V4.heap.size V4 U:=O.trans (g.trans (y.mono g.size));have B:ph p S N l I U x.heap.size C c4:=by refine⟨HR4.out.below f,?_,(OwnBs.of_own a1 (by omega)).below y,HB4.out.trans (f.mono HB4.out.size)⟩;rw[show U.heap.size=x.heap.size+1 by rw[hU];simp,hU];exact dr x _ _
    have hSU:PZ p U:=⟨B.rf.lt⟩
    have p9:=HR9.out.below g;have HP9:=Hh p9;have HU:=Hh hU;have HNW:=Hh B;have HSU:=Hh hSU;have HS9:=Hh z;clear g a1 hU y f B hSU p9;refine⟨z,?_⟩;clear z;refine bp 6 ?_;go_simp;rw[<-HU.out];refine⟨HSU.out,?_⟩;have d:=HNW.out;generalize x.heap.size=n at d ⊢;exact X U n C c4 d
   ·go_simp;refine(du l.heap.size _ I (by omega) _ (HP4.out.below O)).mono ?_;rintro e x ⟨C,c4,rfl, -,g,a1⟩;have z:PZ p x:=⟨Nat.lt_of_lt_of_le HS0.out.s g.size⟩
    obtain⟨U,hU⟩:∃U,U=x.alloc (.cells #[.slice C I.length c4] 27):=⟨_,rfl⟩
    have y:Below x.heap.size x U:=by rw[hU];exact(Below.refl _ _).alloc (Nat.le_refl _) _
    have f:Below V4.heap.size V4 U:=O.trans (g.trans (y.mono g.size));have B:ph p S N l I U x.heap.size C c4:=by refine⟨HR4.out.below f,?_,(OwnBs.of_own a1 (by omega)).below y,HB4.out.trans (f.mono HB4.out.size)⟩;rw[show U.heap.size=x.heap.size+1 by rw[hU];simp,hU];exact dr x _ _
    have hSU:PZ p U:=⟨B.rf.lt⟩
    have p9:=HR9.out.below g;have HP9:=Hh p9;have HU:=Hh hU;have HNW:=Hh B;have HSU:=Hh hSU;have HS9:=Hh z;clear g a1 hU y f B hSU p9;refine⟨z,?_⟩;clear z;refine nU 4 6 ?_ ?_
    ·have p4:=HP9.out.tails.2.1;go_simp;clear p4;refine⟨HS9.out,?_⟩;refine bp 6 ?_;go_simp;rw[<-HU.out];refine⟨HSU.out,?_⟩;have d:=HNW.out;generalize x.heap.size=n at d ⊢;exact X U n C c4 d
    ·go_simp;rw[<-HU.out];refine⟨HSU.out,?_⟩;refine bp 4 ?_;have p4:=HNW.out.rf.tails.2.1;go_simp;clear p4;refine⟨HSU.out,?_⟩;have d:=HNW.out;generalize x.heap.size=n at d ⊢;exact X U n C c4 d
   intro U n C c4 d;have F:=Hh d.rf;have HIT:=Hh d.it;have HBY:=Hh d.by_;have HBU:=Hh d.bel;clear d;refine bp 7 ?_;refine aS U (.tmp 36) (.tmp 38) 29 rfl 0 27 j0 (.slice none 0 0) 1 24 Tryz.underlying29 gi gz0 gz1 gz2 rfl (by decide) (.slice N.na N.ns.length N.nc) N.ns.length (N.ns.map aV.cell) rfl F.out.nw U.heap.size (some ⟨n,0,none⟩) 1 1 [.slice C I.length c4] rfl HIT.out (by intro u hu;simp at hu;subst hu;rfl) (by unfold maxLen;omega) (by omega) (Nat.zero_le _) ?_;intro a11 c11 W11 o11 g11 a5;obtain⟨G,Z⟩:=F.out.note (m:=⟨C,c4,I⟩) HBY.out o11 g11 a5;have q:W11.heap[p]? =some (.cells (aP S N).toArray 84 (0,0)):=(g11.block p F.out.lt (fun e=>F.out.apart.2.2.1 (by rw[al]at e;exact e.symm))).trans F.out.row;have H:PZ p W11:=⟨Nat.lt_of_lt_of_le F.out.lt g11.size⟩
   have p2:W11.cell? ⟨p,33,none⟩=some (.slice N.na N.ns.length N.nc):=by rw[cell_of_row _ _ _ _ _ _ q,List.getElem?_toArray];exact ea F.out.sv (j:=1) (by omega)
   have f2:W11.frozen? ⟨p,33,none⟩=false:=frozen_of_row _ _ _ _ _ q;refine⟨H,?_⟩;go_simp;refine hT 8 40 H ?_;refine hT 9 41 H ?_;refine bp 10 ?_;refine aj 29 (.tmp 41) (.tmp 39) rfl p 33 (.slice a11 (N.ns.length+1) c11) _ rfl rfl rfl gM p2 f2 ?_;obtain⟨W12,hW12⟩:∃W12,W12=W11.setCell ⟨p,33,none⟩ (.slice a11 (N.ns.length+1) c11):=⟨_,rfl⟩
   rw[<-hW12]at G Z ⊢;have HR12:=Hh G;have HT12:=Hh Z;have hS12:PZ p W12:=⟨G.lt⟩
   refine⟨hS12,dc ?_⟩;clear H hS12 p2 f2 q G Z hW12 o11 g11 a5 O;have Y:ah p N { N with na:=a11,nc:=c11,ns:=N.ns++ [⟨C,c4,I⟩] } wr W12:=ah.trans (.ofBelow (HBB.out.trans (HBU.out.mono (by omega)))) HT12.out;obtain⟨hio,hib⟩:=J.out.rf.items Y J.out.own J.out.bs J.out.la;have HNN:=Hh (show NL w p R M A r (some ⟨b,o,none⟩) ic (j+1) { S with news:=S.news++ [I] } { N with na:=a11,nc:=c11,ns:=N.ns++ [⟨C,c4,I⟩] } W12 from by
    refine⟨HR12.out,J.out.tu.trans Y,hio,hib,?_,J.out.la,by simp[J.out.nl];omega⟩;rw[J.out.sn,HL4.out];have htk:r.take (j+1)=r.take j++ [m]:=by rw[List.take_add_one,HM.out];rfl
    rw[htk,List.map_append,List.map_cons,List.map_nil,nz];simp[List.length_take,Nat.min_eq_left (Nat.le_of_lt L)])
   clear Y hio hib;go_wp2;go_roundw
   case rel=>exact⟨j+1,_,_,by go_num,L,HNN.out⟩
   case measure=>simp[intOf];omega
  ·have tj:decide ((j:Int)<(r.length:Int))=false:=by simpa using L
   have hje:j=r.length:=by omega
   subst hje;have hfin:S=R.noteItems A:=by rw[J.out.sn,List.take_length,HMAP.out];rfl
   subst hfin;clear L;go_wp2;go_end0;exact⟨rfl,N,J.out.rf,J.out.tu⟩
theorem ao.drawn{w w':World}{p:Nat}{R:aa}{M:ay}(h:ao w p R M){m:Nat}(e:w'=w.drewN m):ao w' p R M:=by rw[e];exact h.below (below_drewN w m)
structure wG (p:Nat) (c:Int) (lb:Nat) (W:World):Prop where
 c8:W.cell? ⟨p,8,none⟩=some (.int .i64 c)
 c4:W.cell? ⟨p,4,none⟩=some (.pointer (some ⟨lb,0,none⟩))
theorem ao.sendS{w:World}{p:Nat}{R:aa}{M:ay}(h:ao w p R M):wG p R.commit M.lb w:=⟨h.c rfl,h.c rfl⟩
theorem mO(p:Nat)(R:aa)(M:ay)(who:Nat)(hw:who<7)(hg:R.line.Good)(hx:∀x∈R.nxt,0<=x/\x<=1099511627777)(hn:R.out.length<=1000000000)(w:World)(h:ao w p R M):
  Calls Tryz.prog 40 #[.pointer (some ⟨p,0,none⟩), .int .i64 who] w fun e w'=>e= .returned (.tuple #[])/\∃M',ao w' p (R.send who) M'/\ah p M M' w w':=by
 have c4:=h.c (i:=4) (v:= .pointer (some ⟨M.lb,0,none⟩)) rfl;obtain⟨X,V⟩:∃X,R.nxt.getD who 0=X:=⟨_,rfl⟩
 have hxb:0<=X/\X<=1099511627777:=by
  rw[<-V];have hl:who<R.nxt.length:=by rw[h.sv.x7];exact hw
  rw[List.getD_eq_getElem?_getD,List.getElem?_eq_getElem hl];exact hx _ (List.getElem_mem hl)
 have hk0:(0:Int)<=(who:Int):=by omega
 have hk1:(who:Int)<7:=by omega
 have HR:=Hh h;have HG:=Hh hg;have HX:=Hh V;have j:=Hh (show R.send who=if X<=R.line.base then R.post who ⟨5,0,R.line.base,R.line.term,0,false,[],R.state⟩ else R.post who ⟨3,0,X-1,(bk R.line (X-1)).1,R.commit,false,R.line.from_ X 16,[]⟩ by unfold aa.send;rw[Int.toNat_natCast,V,Int.sub_add_cancel])
 clear h hg V hx;go_enter Tryz.func40,Tryz.ntmps40
 go_wp2_with fail;refine(fM 0 M.lb R.line M.la M.lc M.ms _ HR.out.ln).mono ?_;rintro e G ⟨rfl,m1,t⟩;have b:=Hh (HR.out.drawn t);have m:=Hh (show Below w.heap.size w G by rw[t];exact below_drewN w m1);have cX:G.cell? ⟨p,25+who,none⟩=some (.int .i64 X):=by rw[<-HX.out];exact b.out.c (dU b.out.sv hw)
 have c5:G.cell? ⟨p,5,none⟩=some (.slice M.sa R.state.length M.sc):=b.out.c rfl;have O:G.cell? ⟨p,4,none⟩=some (.pointer (some ⟨M.lb,0,none⟩)):=b.out.c rfl;clear c4 t;by_cases f:X<=R.line.base
 ·have t1:decide (X<=R.line.base)=true:=by simpa using f
  have HS:=Hh (j.out.trans (if_pos f));clear f;go_wp2_with fail;refine(iU R.state M.sa M.sc _ b.out.st.1).mono ?_;rintro e F ⟨a2,c2,rfl,o,A⟩;have D:=Hh (b.out.below A);have HCL:=Hh o;clear o;have l:=Hh (m.out.trans (A.mono m.out.size));clear A cX c5 O;go_wp2_with fail;refine(qv p R M who ⟨5,0,R.line.base,R.line.term,0,false,[],R.state⟩ none 0 0 a2 c2 hn _ D.out (ms:= []) rfl ⟨qB _,rfl,HCL.out⟩ (fun k Z=>by cases Z)).mono ?_;rintro e w3 ⟨rfl,M',J,I⟩;have g:=Hh J;have HT3:=Hh ((ah.ofBelow l.out).trans I);clear J I;go_wp2;refine bodyPost_ret (results_none rfl _ _ _) rfl ?_;exact⟨rfl,M',by rw[HS.out];exact g.out,HT3.out⟩
 ·have t1:decide (X<=R.line.base)=false:=by simpa using f
  have HS:=Hh (j.out.trans (if_neg f));have w0:IntKind.i64.wrap (X-1)=X-1:=IntWalk.i64_in _ (by omega);have w9:IntKind.i64.wrap X=X:=IntWalk.i64_in _ (by omega);clear f;go_wp2_with fail;refine(dx 0 M.lb R.line HG.out M.la M.lc M.ms (X-1) _ b.out.ln).mono ?_;rintro e F ⟨rfl,m2,s⟩;have D:=Hh (b.out.drawn s);have l:=Hh (show Below w.heap.size w F from m.out.trans (by rw[s];exact(below_drewN G m2).mono m.out.size));obtain⟨W,B⟩:∃W,(bk R.line (X-1)).1=W:=⟨_,rfl⟩
  rw[B];have HTM:=Hh B;clear s cX c5 O B;go_wp2_with fail;refine fx (S:=wG p R.commit M.lb) ?_;have y:Below F.heap.size F F.drew:=(Below.refl _ _).drew;have g:=Hh (D.out.below y);have a:=g.out.sendS;refine hT 0 52 a ?_;refine hT 1 53 a ?_;refine hT 2 54 a ?_;refine hT 3 55 a ?_;refine hT 4 56 a ?_;refine hT 5 57 a ?_;refine hT 6 58 a ?_;refine hT 7 59 a ?_;refine hT 8 60 a ?_;refine hT 9 61 a ?_;refine hT 10 62 a ?_;refine hT 11 63 a ?_;refine hT 12 64 a ?_;refine aG 13 65 (v:= .int .i64 X) rfl rfl (by kernel_rfl) (by kernel_rfl) (by kernel_rfl) (fun _ _ _ h=>h) a (.inl ⟨by rfl,by intro w' hS;clear hS;go_simp;(try (all_goals rfl))⟩) ?_;simp only[List.set_cons_zero,List.set_cons_succ];clear a;refine bp 14 ?_;go_simp;refine(kQ 0 M.lb R.line HG.out M.la M.lc M.ms X 16 _ g.out.ln).mono ?_;rintro e w4 ⟨Y,ic,os,rfl,d,n,z⟩;have q:=Hh d;have U:=Hh n;have T:=Hh (show ∀k,Y.map (·.block)=some k->¬M.own p k from fun k Z=>g.out.notNew (own_lt d.own (by rw[al];exact Z)).1);clear d n;have P:=Hh (g.out.below z);have HB4:=Hh (l.out.trans ((y.trans z).mono l.out.size));have C:=P.out.sendS;refine⟨C,?_⟩;clear z y;refine aG 15 67 (v:= .agg (aF ⟨3,0,X-1,W,R.commit,false,R.line.from_ X 16,[]⟩ Y os.length ic none 0)) rfl rfl (by kernel_rfl) (by kernel_rfl) (by kernel_rfl) (fun _ _ _ h=>h) C (.inl ⟨by rfl,by intro w' hS;clear hS;go_simp;(try (all_goals rfl))⟩) ?_;simp only[List.set_cons_zero,List.set_cons_succ];clear C;refine bp 16 ?_;go_simp;refine(oI p R M who ⟨3,0,X-1,W,R.commit,false,R.line.from_ X 16,[]⟩ Y os.length ic none 0 hn _ P.out rfl ⟨⟨kL q.out.own,q.out.bs⟩,U.out,xM _⟩ T.out).mono ?_;rintro e w5 ⟨rfl,M',r,H,L⟩;have HR5:=Hh r;have HT5:=Hh ((ah.ofBelow HB4.out).trans H);have N:wG p R.commit M.lb w5:=by have h9:=r.sendS;rw[L]at h9;exact h9
  refine⟨N,dc ?_⟩;clear N r H L;go_wp2;go_end0;exact⟨rfl,M',by rw[HS.out,HTM.out];exact HR5.out,HT5.out⟩
end Go.Proofs.YtogcnfhmcpkdcaaGreat
