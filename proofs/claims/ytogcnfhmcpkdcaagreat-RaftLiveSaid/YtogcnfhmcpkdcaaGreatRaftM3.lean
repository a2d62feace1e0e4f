/-
Contract of stand.
-/
import Derived.Test.YtogcnfhmcpkdcaaGreatRaftM2
set_option maxRecDepth 100000
set_option maxHeartbeats 2000000
namespace Go.Proofs.YtogcnfhmcpkdcaaGreat
open Go.RowKit
set_option linter.unusedVariables false
set_option linter.unusedSimpArgs false
theorem rW(p:Nat)(R:aa)(M:ay)(b1 b2 b3:Nat)(who i t:Int)(hn:R.out.length<=1000000000)(w:World)(h:ao w p R M)(h1:w.cell? ⟨b1,0,none⟩=some (.pointer (some ⟨p,0,none⟩)))(h2:w.cell? ⟨b2,0,none⟩=some (.int .i64 i))(h3:w.cell? ⟨b3,0,none⟩=some (.int .i64 t)):
  Calls Tryz.prog 71 #[.int .i64 who, .pointer (some ⟨b1,0,none⟩), .pointer (some ⟨b2,0,none⟩), .pointer (some ⟨b3,0,none⟩)] w fun e w'=>e= .returned (.tuple #[])/\∃M',ao w' p (R.post who ⟨1,0,i,t,0,false,[],[]⟩) M'/\ah p M M' w w':=by
 have f:=Hh h;clear h;go_enter Tryz.func71,Tryz.ntmps71
 go_wp2_with fail;refine(cO p R M who ⟨1,0,i,t,0,false,[],[]⟩ rfl rfl hn _ f.out).mono ?_;rintro e g ⟨rfl,M',b,a⟩;have d:=Hh b;have c:=Hh a;clear b a h1 h2 h3;go_wp2;go_end0;exact⟨rfl,M',d.out,c.out⟩
theorem uD(R:aa):R.goLead.me=R.me/\R.goLead.n=R.n:=by unfold aa.goLead;obtain⟨o,a, -⟩:=eG (f:=aa.send) dj R.lead1.look;obtain⟨m,c,b, -⟩:=ch R.lead1;rw[a];show R.lead1.look.me=_/\R.lead1.look.n=_;rw[b];show R.lead1.me=_/\R.lead1.n=_;unfold aa.lead1;simp only;split<;>exact⟨rfl,rfl⟩
theorem vV(R:aa)(x:Int):(R.count x).me=R.me/\(R.count x).n=R.n:=by
 unfold aa.count;simp only;split
 ·exact uD _
 ·exact⟨rfl,rfl⟩
structure wQ (b p:Nat) (me:Int) (W:World):Prop where
 bx:W.cell? ⟨b,0,none⟩=some (.pointer (some ⟨p,0,none⟩))
 c0:W.cell? ⟨p,0,none⟩=some (.int .i64 me)
theorem ao.setBallot{w:World}{p:Nat}{R:aa}{M:ay}(h:ao w p R M)(t f:Int):ao ((w.setCell ⟨p,2,none⟩ (iz t)).setCell ⟨p,3,none⟩ (iz f)) p { R with bt:=t,bf:=f } M/\ah p M M w ((w.setCell ⟨p,2,none⟩ (iz t)).setCell ⟨p,3,none⟩ (iz f)):=by obtain⟨a,c⟩:=h.set (R':={ R with bt:=t }) 2 (iz t) (bg (by omega) rfl rfl rfl rfl rfl) (h.sv.cp rfl rfl rfl) rfl rfl rfl rfl;obtain⟨d,b⟩:=a.set (R':={ R with bt:=t,bf:=f }) 3 (iz f) (bg (by omega) rfl rfl rfl rfl rfl) (a.sv.cp rfl rfl rfl) rfl rfl rfl rfl;exact⟨d,c.trans b⟩
theorem ah.cell{p:Nat}{M M':ay}{w w':World}(h:ah p M M' w w'){b o:Nat}(c:b<w.heap.size)(hn:¬M.own p b):w'.cell? ⟨b,o,none⟩=w.cell? ⟨b,o,none⟩:=World.cell?_of_block (a:=⟨b,o,none⟩) (h.block b c hn)
theorem ao.clearVotes{w:World}{p:Nat}{R:aa}{M:ay}(h:ao w p R M):ao (((((((w.setCell ⟨p,11,none⟩ (iz 0)).setCell ⟨p,12,none⟩ (iz 0)).setCell ⟨p,13,none⟩ (iz 0)).setCell ⟨p,14,none⟩ (iz 0)).setCell ⟨p,15,none⟩ (iz 0)).setCell ⟨p,16,none⟩ (iz 0)).setCell ⟨p,17,none⟩ (iz 0)) p { R with votes:=aW } M/\ah p M M w (((((((w.setCell ⟨p,11,none⟩ (iz 0)).setCell ⟨p,12,none⟩ (iz 0)).setCell ⟨p,13,none⟩ (iz 0)).setCell ⟨p,14,none⟩ (iz 0)).setCell ⟨p,15,none⟩ (iz 0)).setCell ⟨p,16,none⟩ (iz 0)).setCell ⟨p,17,none⟩ (iz 0)):=by obtain⟨r,k⟩:=h.setVotes (j:=0) (by omega) 0;obtain⟨q,i⟩:=r.setVotes (j:=1) (by omega) 0;obtain⟨o,g⟩:=q.setVotes (j:=2) (by omega) 0;obtain⟨n,f⟩:=o.setVotes (j:=3) (by omega) 0;obtain⟨m,e⟩:=n.setVotes (j:=4) (by omega) 0;obtain⟨l,d⟩:=m.setVotes (j:=5) (by omega) 0;obtain⟨a,c⟩:=l.setVotes (j:=6) (by omega) 0;refine⟨?_,(((((k.trans i).trans g).trans f).trans e).trans d).trans c⟩;obtain⟨A,z,y,x,v,t,s,b⟩:=xI h.sv.v7;simp only[b]at a;exact a
theorem ao.votesCells{w:World}{p:Nat}{R:aa}{M:ay}(h:ao w p R M):w.cell? ⟨p,11,none⟩=some (iz (R.votes.getD 0 0))/\w.cell? ⟨p,12,none⟩=some (iz (R.votes.getD 1 0))/\w.cell? ⟨p,13,none⟩=some (iz (R.votes.getD 2 0))/\w.cell? ⟨p,14,none⟩=some (iz (R.votes.getD 3 0))/\w.cell? ⟨p,15,none⟩=some (iz (R.votes.getD 4 0))/\w.cell? ⟨p,16,none⟩=some (iz (R.votes.getD 5 0))/\w.cell? ⟨p,17,none⟩=some (iz (R.votes.getD 6 0)):=⟨h.c (bC h.sv (j:=0) (by omega)),h.c (bC h.sv (j:=1) (by omega)),h.c (bC h.sv (j:=2) (by omega)),h.c (bC h.sv (j:=3) (by omega)),h.c (bC h.sv (j:=4) (by omega)),h.c (bC h.sv (j:=5) (by omega)),h.c (bC h.sv (j:=6) (by omega))⟩
theorem ue(p:Nat)(R:aa)(M:ay)(hn1:1<=R.n)(hn7:R.n<=7)(hm0:0<=R.me)(hmn:R.me<R.n)(hb0:0<=R.bt)(hb1:R.bt<=1099511627776)(hg:R.line.Good)(hnw:R.news.length<=999980000)(ho:R.out.length<=999998000)(w:World)(h:ao w p R M):
  Calls Tryz.prog 41 #[.pointer (some ⟨p,0,none⟩)] w fun e w'=>e= .returned (.tuple #[])/\∃M',ao w' p R.stand M'/\ah p M M' w w':=by
 obtain⟨a1,b1⟩:=h.setTicks 0;obtain⟨t,Y⟩:∃t,t=(w.setCell ⟨p,10,none⟩ (iz 0)).alloc (.cells #[.pointer (some ⟨p,0,none⟩)] 25):=⟨_,rfl⟩
 have hsz:(w.setCell ⟨p,10,none⟩ (iz 0)).heap.size=w.heap.size:=by simp
 have hbW:Below (w.setCell ⟨p,10,none⟩ (iz 0)).heap.size (w.setCell ⟨p,10,none⟩ (iz 0)) t:=by rw[Y];exact(Below.refl _ _).alloc (Nat.le_refl _) _
 have hpl:=h.lt;have hno:¬M.own p w.heap.size:=h.notNew (Nat.le_refl _);have y:=Hh (a1.below hbW);have HT1:=Hh (b1.trans (.ofBelow hbW));have HBX1:=Hh (show t.cell? ⟨w.heap.size,0,none⟩=some (.pointer (some ⟨p,0,none⟩)) by rw[Y];have h9:=cell_of_row _ (w.setCell ⟨p,10,none⟩ (iz 0)).heap.size 0 _ _ _ (heap_alloc_new (w.setCell ⟨p,10,none⟩ (iz 0)) (.cells #[.pointer (some ⟨p,0,none⟩)] 25));rw[hsz]at h9;exact h9)
 have hs1:w.heap.size<t.heap.size:=by rw[Y];simp
 have HG:=Hh hg;have HNO:=Hh hno;have c10:w.cell? ⟨p,10,none⟩=some (.int .i64 R.ticks):=h.c rfl;have c2:w.cell? ⟨p,2,none⟩=some (.int .i64 R.bt):=h.c rfl;have f10:=h.f 10;have HW1:=Hh Y;clear a1 b1 hbW Y hno hsz h hg;by_cases z:1099511627776<=R.bt
 ·have t1:decide (1099511627776<=R.bt)=true:=by simpa using z
  have HF:=Hh (show R.stand={ R with ticks:=0 } by unfold aa.stand;rw[if_pos z]);clear z;go_enter Tryz.func41,Tryz.ntmps41
  go_wp2;refine bodyPost_ret (results_none rfl _ _ _) rfl ?_;rw[HF.out,<-HW1.out];exact⟨rfl,M,y.out,HT1.out⟩
 ·have t1:decide (1099511627776<=R.bt)=false:=by simpa using z
  have hbt:R.bt+1<=1099511627776:=by omega
  have wb:IntKind.i64.wrap (R.bt+1)=R.bt+1:=IntWalk.i64_in _ (by omega);have HST:=Hh (show R.stand=(R.stand0.others fun S D=>S.post D ⟨1,0,R.line.last,(bk R.line R.line.last).1,0,false,[],[]⟩).count R.me by unfold aa.stand;rw[if_neg z]);clear z;go_enter Tryz.func41,Tryz.ntmps41
  go_wp2_with fail;rw[<-HW1.out];clear c10 c2 f10;refine fx (S:=wQ w.heap.size p R.me) ?_;have d:Below t.heap.size t t.drew:=(Below.refl _ _).drew;have HR2:=Hh (y.out.below d);have a:wQ w.heap.size p R.me t.drew:=⟨(d.cell (p:=⟨w.heap.size,0,none⟩) hs1).trans HBX1.out,HR2.out.c rfl⟩
  refine hT 0 13 a ?_;refine hT 1 14 a ?_;refine hT 7 20 a ?_;refine hT 2 15 a ?_;refine hT 8 21 a ?_;refine hT 3 16 a ?_;refine hT 9 22 a ?_;refine hT 4 17 a ?_;refine hT 10 23 a ?_;have c2:t.drew.cell? ⟨p,2,none⟩=some (.int .i64 R.bt):=HR2.out.c rfl;have HS0:=Hh a;clear a;refine bp 5 ?_;go_simp;clear c2;have a:=HS0.out;refine⟨a,?_⟩;refine aG 6 19 (v:= .int .i64 (R.bt+1)) rfl rfl (by kernel_rfl) (by kernel_rfl) (by kernel_rfl) (fun _ _ _ h=>h) a (.inl ⟨by rfl,by intro w' hS;clear hS;go_simp;(try (all_goals rfl))⟩) ?_;simp only[List.set_cons_zero,List.set_cons_succ];refine aG 11 24 (v:= .agg #[.int .i64 (R.bt+1), .int .i64 R.me]) rfl rfl (by kernel_rfl) (by kernel_rfl) (by kernel_rfl) (fun _ _ _ h=>h) a (.inl ⟨by rfl,by intro w' hS;clear hS;go_simp;(try (all_goals rfl))⟩) ?_;simp only[List.set_cons_zero,List.set_cons_succ];refine hT 12 25 a ?_;refine hT 13 26 a ?_;clear a;have c2:t.cell? ⟨p,2,none⟩=some (.int .i64 R.bt):=y.out.c rfl;have c3:t.cell? ⟨p,3,none⟩=some (.int .i64 R.bf):=y.out.c rfl;have f2:=y.out.f 2;have f3:=y.out.f 3;refine bp 14 ?_;go_simp;obtain⟨V2,hV2⟩:∃V2,V2=((t.setCell ⟨p,2,none⟩ (.int .i64 (R.bt+1))).setCell ⟨p,3,none⟩ (.int .i64 R.me)).drew:=⟨_,rfl⟩
  rw[<-hV2];obtain⟨a2,b2⟩:=y.out.setBallot (R.bt+1) R.me;have hb2:Below ((t.setCell ⟨p,2,none⟩ (iz (R.bt+1))).setCell ⟨p,3,none⟩ (iz R.me)).heap.size ((t.setCell ⟨p,2,none⟩ (iz (R.bt+1))).setCell ⟨p,3,none⟩ (iz R.me)) V2:=by rw[hV2];exact(Below.refl _ _).drew
  obtain⟨C,hR2⟩:∃C:aa,C={ R with ticks:=0,bt:=R.bt+1,bf:=R.me }:=⟨_,rfl⟩
  have HRV:=Hh (show ao V2 p C M by rw[hR2];exact a2.below hb2);have HTV:=Hh (HT1.out.trans (b2.trans (.ofBelow hb2)));have hsV:t.heap.size<=V2.heap.size:=by rw[hV2];simp
  have HBXV:=Hh (show V2.cell? ⟨w.heap.size,0,none⟩=some (.pointer (some ⟨p,0,none⟩)) from((b2.trans (.ofBelow hb2)).cell hs1 HNO.out).trans HBX1.out);have k:=Hh (show C.me=R.me/\C.n=R.n/\C.bt=R.bt+1/\C.bf=R.me/\C.news=R.news/\C.out=R.out/\C.line=R.line by rw[hR2];exact⟨rfl,rfl,rfl,rfl,rfl,rfl,rfl⟩);have HR2d:=Hh hR2;have hS1:wQ w.heap.size p R.me V2:=⟨HBXV.out,by rw[<-k.out.1];exact HRV.out.c rfl⟩
  refine⟨hS1,dc ?_⟩;obtain⟨bx, -⟩:=hS1;clear hV2 a2 b2 hb2 hR2 c2 c3 f2 f3 d;go_wp2_with fail;refine(fI p C M (by rw[k.out.2.2.1];omega) (by rw[k.out.2.2.1];omega) (by rw[k.out.2.2.2.1];omega) (by rw[k.out.2.2.2.1];omega) (by rw[k.out.2.2.2.2.1];omega) _ HRV.out).mono ?_;rintro e V3 ⟨rfl,M3,hr3,F⟩;obtain⟨R3,hR3⟩:∃R3:aa,R3=C.noteBallot:=⟨_,rfl⟩
  rw[<-hR3]at hr3;have HR3d:=Hh hR3;have HR3:=Hh hr3;have HT3:=Hh (HTV.out.trans F);have l:=Hh (show ¬M3.own p w.heap.size from fun h9=>by
   rcases F.fresh _ h9 with h8 | h8
   ·exact HNO.out h8
   ·omega)
  have hs3:=F.size;have HBX3:=Hh (show V3.cell? ⟨w.heap.size,0,none⟩=some (.pointer (some ⟨p,0,none⟩)) from(F.cell (by omega) HNO.out).trans HBXV.out);have s:=Hh (show R3.me=R.me/\R3.n=R.n/\R3.line=R.line/\R3.out=R.out/\R3.news.length<=999980001 by
   rw[hR3];refine⟨k.out.1,k.out.2.1,k.out.2.2.2.2.2.2,k.out.2.2.2.2.2.1,?_⟩;show(C.news++ [_]).length<=_;rw[k.out.2.2.2.2.1]
   simp
   omega)
  clear hr3 F hR3 bx;go_wp2_with fail;refine fx (S:=wQ w.heap.size p R.me) ?_;obtain⟨V4,hV4⟩:∃V4,V4=V3.drew:=⟨_,rfl⟩
  have d:Below V3.heap.size V3 V4:=by rw[hV4];exact(Below.refl _ _).drew
  (refine(show wpAnyH _ _ _ _ _ _ _ _ V3.drew from ?_))
  rw[<-hV4];clear hV4;have HR4:=Hh (HR3.out.below d);have a:wQ w.heap.size p R.me V4:=⟨(d.cell (p:=⟨w.heap.size,0,none⟩) (show w.heap.size<_ by omega)).trans HBX3.out,by rw[<-s.out.1];exact HR4.out.c rfl⟩
  refine hT 0 29 a ?_;refine hT 1 30 a ?_;refine hT 2 31 a ?_;refine hT 3 32 a ?_;obtain⟨a5,b5⟩:=HR4.out.setRole 1;have c6:V4.cell? ⟨p,6,none⟩=some (iz R3.role):=HR4.out.c rfl;have f6:=HR4.out.f 6;refine bp 4 ?_;refine aj 3 (.tmp 32) _ rfl p 6 (iz 1) _ rfl rfl rfl (by kernel_rfl) c6 f6 ?_;obtain⟨V5,hV5⟩:∃V5,V5=V4.setCell ⟨p,6,none⟩ (iz 1):=⟨_,rfl⟩
  rw[<-hV5]at a5 b5 ⊢;have HR5:=Hh a5;have HT5:=Hh (HT3.out.trans ((ah.ofBelow d).trans b5));have HBX5:=Hh (show V5.cell? ⟨w.heap.size,0,none⟩=some (.pointer (some ⟨p,0,none⟩)) from(b5.cell (Nat.lt_of_lt_of_le (by omega) d.size) l.out).trans a.bx);have hs5:V3.heap.size<=V5.heap.size:=by rw[hV5];simpa using d.size
  have hS5:wQ w.heap.size p R.me V5:=⟨HBX5.out,by rw[<-s.out.1];exact HR5.out.c rfl⟩
  refine⟨hS5,?_⟩;clear a c6 f6 hV5 a5 b5 d;refine hT 5 33 hS5 ?_;refine hT 6 34 hS5 ?_;obtain⟨a6,b6⟩:=HR5.out.setLead (-1);have c7:V5.cell? ⟨p,7,none⟩=some (iz R3.lead):=HR5.out.c rfl;have f7:=HR5.out.f 7;refine bp 7 ?_;refine aj 3 (.tmp 34) _ rfl p 7 (iz (-1)) _ rfl rfl rfl (by kernel_rfl) c7 f7 ?_;obtain⟨V6,hV6⟩:∃V6,V6=V5.setCell ⟨p,7,none⟩ (iz (-1)):=⟨_,rfl⟩
  rw[<-hV6]at a6 b6 ⊢;have j:=Hh a6;have HT6:=Hh (HT5.out.trans b6);have U:V6.cell? ⟨w.heap.size,0,none⟩=some (.pointer (some ⟨p,0,none⟩)):=(b6.cell (by omega) l.out).trans HBX5.out;have hs6:V5.heap.size<=V6.heap.size:=by rw[hV6];simp
  have hS6:wQ w.heap.size p R.me V6:=⟨U,by rw[<-s.out.1];exact j.out.c rfl⟩
  refine⟨hS6,dc ?_⟩;clear hS5 hS6 c7 f7 hV6 a6 b6;obtain⟨a7,b7⟩:=j.out.clearVotes;obtain⟨V7,hV7⟩:∃V7,V7=((((((V6.setCell ⟨p,11,none⟩ (iz 0)).setCell ⟨p,12,none⟩ (iz 0)).setCell ⟨p,13,none⟩ (iz 0)).setCell ⟨p,14,none⟩ (iz 0)).setCell ⟨p,15,none⟩ (iz 0)).setCell ⟨p,16,none⟩ (iz 0)).setCell ⟨p,17,none⟩ (iz 0):=⟨_,rfl⟩
  rw[<-hV7]at a7 b7;obtain⟨x,hR7⟩:∃x:aa,x={ R3 with role:=1,lead:= -1,votes:=aW }:=⟨_,rfl⟩
  have HR7:=Hh (show ao V7 p x M3 by rw[hR7];exact a7);have HT7:=Hh (HT6.out.trans b7);have HS0:=Hh (show x=R.stand0 by rw[hR7,HR3d.out,HR2d.out];rfl);have q:=Hh (show x.me=R.me/\x.n=R.n/\x.line=R.line/\x.out=R.out/\x.news.length<=999980001/\x.votes=aW by rw[hR7];exact⟨s.out.1,s.out.2.1,s.out.2.2.1,s.out.2.2.2.1,s.out.2.2.2.2,rfl⟩);have hs7:V6.heap.size<=V7.heap.size:=by rw[hV7];simp
  have HBX7:=Hh (show V7.cell? ⟨w.heap.size,0,none⟩=some (.pointer (some ⟨p,0,none⟩)) from(b7.cell (by omega) l.out).trans U);have HV7:=Hh hV7;have c4:V6.cell? ⟨p,4,none⟩=some (.pointer (some ⟨M3.lb,0,none⟩)):=j.out.c rfl;obtain⟨g0,g1,g2,g3,g4,g5,g6⟩:=j.out.votesCells;have f11:=j.out.f 11;have f12:=j.out.f 12;have f13:=j.out.f 13;have f14:=j.out.f 14;have f15:=j.out.f 15;have f16:=j.out.f 16;have f17:=j.out.f 17;clear a7 b7 hV7 hR7;go_wp2_with fail;rw[<-HV7.out];clear c4 g0 g1 g2 g3 g4 g5 g6 f11 f12 f13 f14 f15 f16 f17 U;have P:=HR7.out.ln;rw[q.out.2.2.1]at P;refine(kj 0 M3.lb R.line HG.out M3.la M3.lc M3.ms _ P).mono ?_;rintro e m ⟨rfl,m8,hm8⟩;have X:Below V7.heap.size V7 m:=by rw[hm8];exact below_drewN V7 m8
  have HR8:=Hh (HR7.out.below X);have HT8:=Hh (HT7.out.trans (.ofBelow X));have hs8:=X.size;obtain⟨L,hL⟩:∃L,R.line.last=L:=⟨_,rfl⟩
  obtain⟨T,hT⟩:∃T,(bk R.line R.line.last).1=T:=⟨_,rfl⟩
  have HLT:=Hh (show R.line.last=L/\(bk R.line R.line.last).1=T from⟨hL,hT⟩);rw[hT,hL];obtain⟨V9,A⟩:∃V9,V9=(m.alloc (.cells #[.int .i64 L] 3)).alloc (.cells #[.int .i64 T] 3):=⟨_,rfl⟩
  have hb9:Below m.heap.size m V9:=by rw[A];exact((Below.refl _ _).alloc (Nat.le_refl _) _).alloc (by simp) _
  have hr9a:V9.heap[m.heap.size]? =some (.cells #[.int .i64 L] 3 (0,0)):=by rw[A];exact(((Below.refl _ _).alloc (Nat.le_refl (m.alloc (.cells #[.int .i64 L] 3)).heap.size) _).block _ (by simp)).trans (heap_alloc_new m _)
  have hr9b:V9.heap[m.heap.size+1]? =some (.cells #[.int .i64 T] 3 (0,0)):=by rw[A];have h9:=heap_alloc_new (m.alloc (.cells #[.int .i64 L] 3)) (.cells #[.int .i64 T] 3);simpa using h9
  have hs9:V9.heap.size=m.heap.size+2:=by rw[A];simp
  have HR9:=Hh (HR8.out.below hb9);have HT9:=Hh (HT8.out.trans (.ofBelow hb9));have HN2:=Hh (HR8.out.notNew (Nat.le_refl m.heap.size));have HN3:=Hh (HR8.out.notNew (Nat.le_succ m.heap.size));have HC2:=Hh (cell_of_row _ _ 0 _ _ _ hr9a);have HC3:=Hh (cell_of_row _ _ 0 _ _ _ hr9b);have HBX8:=Hh (show m.cell? ⟨w.heap.size,0,none⟩=some (.pointer (some ⟨p,0,none⟩)) from(X.cell (p:=⟨w.heap.size,0,none⟩) (show w.heap.size<_ by omega)).trans HBX7.out);have HBX9:=Hh (show V9.cell? ⟨w.heap.size,0,none⟩=some (.pointer (some ⟨p,0,none⟩)) from(hb9.cell (p:=⟨w.heap.size,0,none⟩) (show w.heap.size<_ by omega)).trans HBX8.out);have HV9:=Hh A;have HS9:=Hh hs9;have bx8:=HBX8.out;have hlt8:w.heap.size<m.heap.size:=by omega
  have hpl8:p<m.heap.size:=by omega
  obtain⟨me,hme⟩:∃me:Nat,R.me=me:=⟨R.me.toNat,by omega⟩
  obtain⟨n,hn⟩:∃n:Nat,R.n=n:=⟨R.n.toNat,by omega⟩
  have HMN:=Hh (show R.me=me/\R.n=n from⟨hme,hn⟩);have hme7:me<7:=by omega
  have hnn7:n<=7:=by omega
  have HOTH:=Hh (mP p x M3 71 (iR Tryz.func71 (by kernel_rfl) rfl) #[] #[.pointer (some ⟨w.heap.size,0,none⟩), .pointer (some ⟨m.heap.size,0,none⟩), .pointer (some ⟨m.heap.size+1,0,none⟩)] (fun S D=>S.post D ⟨1,0,L,T,0,false,[],[]⟩)
   (fun i S=>∃o,S={ x with out:=o }/\o.length<=x.out.length+i) n (by rw[q.out.2.1,hn]) hnn7 V9 HR9.out ⟨x.out,rfl,by omega⟩
   (by
    rintro i S hi ⟨o,rfl,hl⟩;refine⟨rfl,?_⟩;split
    ·exact⟨o,rfl,by omega⟩
    ·exact⟨_,rfl,by simp;omega⟩)
   (by rintro S ⟨o,rfl, -⟩;rfl)
   (by
    rintro i hi-S N W hr ht ⟨o,rfl,hl⟩;refine rW p { x with out:=o } N w.heap.size m.heap.size (m.heap.size+1) i L T (by simp only;rw[q.out.2.2.2.1]at hl;omega) W hr ?_ ?_ ?_
    ·exact(ht.cell (by omega) l.out).trans HBX9.out
    ·exact(ht.cell (by omega) HN2.out).trans HC2.out
    ·exact(ht.cell (by omega) HN3.out).trans HC3.out))
  clear hm8 X hL hT A hb9 hr9a hr9b hs9 P hme hn;go_wp2_with fail;rw[<-HV9.out];refine HOTH.out.mono ?_;rintro e B ⟨rfl,M10,I,r,o10,J,hol⟩;obtain⟨g,Z⟩:∃g,g=x.others fun S D=>S.post D ⟨1,0,L,T,0,false,[],[]⟩:=⟨_,rfl⟩
  rw[<-Z]at I J;have HR10:=Hh I;have HT10:=Hh (HT9.out.trans r);have b:=Hh (show g.me=R.me/\g.n=R.n/\g.line=R.line/\g.out.length<=999999000/\g.news.length<=999980001/\g.votes=aW by rw[J];refine⟨q.out.1,q.out.2.1,q.out.2.2.1,?_,q.out.2.2.2.2.1,q.out.2.2.2.2.2⟩;show o10.length<=_;rw[q.out.2.2.2.1]at hol;omega)
  have HFIN:=Hh (show R.stand=g.count me by rw[HST.out,<-HS0.out,HLT.out.1,<-HLT.out.1,HLT.out.2,HLT.out.1,<-Z,HMN.out.1]);have HNO10:=Hh (show ¬M10.own p w.heap.size from fun h9=>by
   rcases r.fresh _ h9 with h8 | h8
   ·exact l.out h8
   ·have:=HS9.out;omega)
  have hs10:=r.size;have HBX10:=Hh (show B.cell? ⟨w.heap.size,0,none⟩=some (.pointer (some ⟨p,0,none⟩)) from(r.cell (by have:=HS9.out;omega) l.out).trans HBX9.out);have O:w.heap.size<B.heap.size:=by have:=HS9.out;omega
  clear I r Z J hol bx8;go_wp2_with fail;refine fx (S:=wQ w.heap.size p me) ?_;have d:Below B.heap.size B B.drew:=(Below.refl _ _).drew;have HR11:=Hh (HR10.out.below d);have a:wQ w.heap.size p me B.drew:=⟨(d.cell (p:=⟨w.heap.size,0,none⟩) O).trans HBX10.out,by rw[<-HMN.out.1,<-b.out.1];exact HR11.out.c rfl⟩
  refine hT 0 50 a ?_;refine hT 1 51 a ?_;refine hT 2 52 a ?_;refine hT 3 53 a ?_;refine hT 4 54 a ?_;have V:=a.bx;clear a;refine bp 5 ?_;go_simp;refine(oK p g M10 me hme7 (by rw[b.out.2.1];exact hn1) (by rw[b.out.2.1];exact hn7) (by rw[b.out.1];exact hm0) (by rw[b.out.1,b.out.2.1];exact hmn) (by rw[b.out.2.2.1];exact HG.out) (by rw[b.out.2.2.2.2.2];simp[aW]) (by have:=b.out.2.2.2.2.1;omega) b.out.2.2.2.1 _ HR11.out).mono ?_;rintro e V12 ⟨rfl,M12,H,G⟩;have hS12:wQ w.heap.size p me V12:=by refine⟨(G.cell (Nat.lt_of_lt_of_le O d.size) HNO10.out).trans V,?_⟩;have h9:V12.cell? ⟨p,0,none⟩=some (.int .i64 (g.count me).me):=H.c rfl;rw[(vV _ _).1,b.out.1,HMN.out.1]at h9;exact h9
  have HR12:=Hh (show ao V12 p R.stand M12 by rw[HFIN.out];exact H);have HT12:=Hh (HT10.out.trans ((ah.ofBelow d).trans G));refine⟨hS12,dc ?_⟩;clear hS12 H G V d;go_wp2;go_end0;exact⟨rfl,M12,HR12.out,HT12.out⟩
end Go.Proofs.YtogcnfhmcpkdcaaGreat
namespace Go.Proofs.YtogcnfhmcpkdcaaGreat
open Go.RowKit
set_option linter.unusedVariables false
set_option linter.unusedSimpArgs false
structure nT (p:Nat) (me role ticks:Int) (W:World):Prop where
 c0:W.cell? ⟨p,0,none⟩=some (.int .i64 me)
 c6:W.cell? ⟨p,6,none⟩=some (.int .i64 role)
 c10:W.cell? ⟨p,10,none⟩=some (.int .i64 ticks)
theorem ao.tickS{w:World}{p:Nat}{R:aa}{M:ay}(h:ao w p R M):nT p R.me R.role R.ticks w:=⟨h.c rfl,h.c rfl,h.c rfl⟩
theorem jY(p:Nat)(R:aa)(M:ay)(hn1:1<=R.n)(hn7:R.n<=7)(hm0:0<=R.me)(hmn:R.me<R.n)(hb0:0<=R.bt)(hb1:R.bt<=1099511627776)(hg:R.line.Good)(hx:∀x∈R.nxt,0<=x/\x<=1099511627777)(hk0:0<=R.ticks)(hk1:R.ticks<=1000)(hnw:R.news.length<=999980000)(ho:R.out.length<=999998000)(w:World)(h:ao w p R M):
  Calls Tryz.prog 11 #[.pointer (some ⟨p,0,none⟩)] w fun e w'=>e= .returned (.tuple #[])/\∃M',ao w' p R.tick M'/\ah p M M' w w':=by
 obtain⟨K,J⟩:∃K,K=R.ticks+1:=⟨_,rfl⟩
 have wk:IntKind.i64.wrap (R.ticks+1)=K:=by rw[J];exact IntWalk.i64_in _ (by omega)
 have s:w.cell? ⟨p,10,none⟩=some (.int .i64 R.ticks):=h.c rfl;have L:w.cell? ⟨p,6,none⟩=some (.int .i64 R.role):=h.c rfl;have r:=h.f 10;obtain⟨O,X⟩:=h.setTicks K;obtain⟨S,g⟩:∃S:aa,S={ R with ticks:=K }:=⟨_,rfl⟩
 rw[<-g]at O;have o:=Hh O;have m:=Hh X;have Y:=Hh hg;have HX:=Hh hx;have q:=Hh (show R.tick=if R.role=2/\4<=K then({ R with ticks:=0 }:aa).others aa.send else if R.role≠2/\20+2*R.me<=K then S.stand else S by rw[g,J];rfl)
 have b:=Hh (show S.me=R.me/\S.n=R.n/\S.bt=R.bt/\S.line=R.line/\S.news=R.news/\S.out=R.out/\S.role=R.role/\S.ticks=K by rw[g];exact⟨rfl,rfl,rfl,rfl,rfl,rfl,rfl,rfl⟩);have P:=Hh g;clear O X g h hg hx J;have T:=Hh (show({ S with ticks:=0 }:aa)={ R with ticks:=0 } by rw[P.out]);by_cases l:R.role=2
 ·have t2:(R.role==2)=true:=by simpa using l
  have I:(R.role !=2)=false:=by simp[l]
  by_cases A:4<=K
  ·have t4:decide (4<=K)=true:=by simpa using A
   have y:=Hh (q.out.trans (if_pos ⟨l,A⟩));obtain⟨V,hV⟩:∃V,V=(w.setCell ⟨p,10,none⟩ (iz K)).setCell ⟨p,10,none⟩ (iz 0):=⟨_,rfl⟩
   obtain⟨H,N⟩:=o.out.setTicks 0;rw[<-hV]at H N;rw[T.out]at H;have W:=Hh H;have t:=Hh (m.out.trans N);have B:=Hh hV;clear H N hV l A;go_enter Tryz.func11,Tryz.ntmps11
   go_wp2_with fail;rw[<-B.out];refine(mT p { R with ticks:=0 } M (by show 0<=R.n;omega) hn7 Y.out HX.out (by show R.out.length<=_;omega) _ W.out).mono ?_;rintro e w2 ⟨rfl,M',G,D⟩;have i:=Hh G;have k:=Hh (t.out.trans D);clear G D;go_wp2;go_end0;rw[y.out];exact⟨rfl,M',i.out,k.out⟩
  ·have t4:decide (4<=K)=false:=by simpa using A
   have y:=Hh (show R.tick=S by rw[q.out,if_neg (fun j=>A j.2),if_neg (fun j=>j.1 l)]);obtain⟨V,hV⟩:∃V,V=w.setCell ⟨p,10,none⟩ (iz K):=⟨_,rfl⟩
   rw[<-hV]at o m;have B:=Hh hV;clear l A hV;go_enter Tryz.func11,Tryz.ntmps11
   go_wp2_with fail;rw[<-B.out];refine fx (S:=nT p R.me R.role K) ?_;have d:Below V.heap.size V V.drew:=(Below.refl _ _).drew;have i:=Hh (o.out.below d);have a:nT p R.me R.role K V.drew:=by have j:=i.out.tickS;rw[b.out.1,b.out.2.2.2.2.2.2.1,b.out.2.2.2.2.2.2.2]at j;exact j
   clear s L r;refine hT 0 30 a ?_;refine hT 1 31 a ?_;refine hT 2 32 a ?_;refine hT 3 33 a ?_;refine hT 4 34 a ?_;refine hT 5 35 a ?_;refine hN 6 36 a ?_;refine hN 10 40 a ?_;refine hN 7 37 a ?_;refine hN 11 41 a ?_;refine hN 8 38 a ?_;refine hN 12 42 a ?_;refine hN 9 39 a ?_;refine hN 13 43 a ?_;refine hN 14 44 a ?_;refine hN 15 45 a ?_;refine hN 16 46 a ?_;refine aG 17 47 (v:= .bool false) rfl rfl (by kernel_rfl) (by kernel_rfl) (by kernel_rfl) (fun _ _ _ h=>h) a (.inl ⟨by rfl,by intro w' g;clear g;go_simp;(try (all_goals rfl))⟩) ?_;simp only[List.set_cons_zero,List.set_cons_succ];refine hT 18 29 a ?_;refine dc ?_;have k:=Hh (m.out.trans (.ofBelow d));clear a d;go_wp2;go_end0;rw[y.out];exact⟨rfl,M,i.out,k.out⟩
 ·have t2:(R.role==2)=false:=by simpa using l
  have I:(R.role !=2)=true:=by simpa using l
  obtain⟨V,hV⟩:∃V,V=w.setCell ⟨p,10,none⟩ (iz K):=⟨_,rfl⟩
  rw[<-hV]at o m;have B:=Hh hV;clear hV;have wm:IntKind.i64.wrap (2*R.me)=2*R.me:=IntWalk.i64_in _ (by omega);have wa:IntKind.i64.wrap (20+2*R.me)=20+2*R.me:=IntWalk.i64_in _ (by omega);by_cases z:20+2*R.me<=K
  ·have Z:decide (20+2*R.me<=K)=true:=by simpa using z
   have y:=Hh (show R.tick=S.stand by rw[q.out,if_neg (fun j=>l j.1),if_pos ⟨l,z⟩]);clear l z;go_enter Tryz.func11,Tryz.ntmps11
   go_wp2_with fail;rw[<-B.out];clear s L r;refine fx (S:=nT p R.me R.role K) ?_;have d:Below V.heap.size V V.drew:=(Below.refl _ _).drew;have i:=Hh (o.out.below d);have a:nT p R.me R.role K V.drew:=by have j:=i.out.tickS;rw[b.out.1,b.out.2.2.2.2.2.2.1,b.out.2.2.2.2.2.2.2]at j;exact j
   refine hT 0 30 a ?_;refine hT 1 31 a ?_;refine hT 2 32 a ?_;refine hT 3 33 a ?_;refine hT 4 34 a ?_;refine hT 5 35 a ?_;refine hT 6 36 a ?_;refine hT 10 40 a ?_;refine hT 7 37 a ?_;refine hT 11 41 a ?_;refine hT 8 38 a ?_;refine hT 12 42 a ?_;refine hT 9 39 a ?_;refine hT 13 43 a ?_;refine aG 14 44 (v:= .int .i64 (2*R.me)) rfl rfl (by kernel_rfl) (by kernel_rfl) (by kernel_rfl) (fun _ _ _ h=>h) a (.inl ⟨by rfl,by intro w' g;clear g;go_simp;(try (all_goals rfl))⟩) ?_;simp only[List.set_cons_zero,List.set_cons_succ];refine aG 15 45 (v:= .int .i64 (20+2*R.me)) rfl rfl (by kernel_rfl) (by kernel_rfl) (by kernel_rfl) (fun _ _ _ h=>h) a (.inl ⟨by rfl,by intro w' g;clear g;go_simp;(try (all_goals rfl))⟩) ?_;simp only[List.set_cons_zero,List.set_cons_succ];refine aG 16 46 (v:= .bool true) rfl rfl (by kernel_rfl) (by kernel_rfl) (by kernel_rfl) (fun _ _ _ h=>h) a (.inl ⟨by rfl,by intro w' g;clear g;go_simp;(try (all_goals rfl))⟩) ?_;simp only[List.set_cons_zero,List.set_cons_succ];refine aG 17 47 (v:= .bool true) rfl rfl (by kernel_rfl) (by kernel_rfl) (by kernel_rfl) (fun _ _ _ h=>h) a (.inl ⟨by rfl,by intro w' g;clear g;go_simp;(try (all_goals rfl))⟩) ?_;simp only[List.set_cons_zero,List.set_cons_succ];refine hT 18 29 a ?_;refine dc ?_;have k:=Hh (m.out.trans (.ofBelow d));clear a d;go_wp2_with fail;refine(ue p S M (by rw[b.out.2.1];exact hn1) (by rw[b.out.2.1];exact hn7) (by rw[b.out.1];exact hm0) (by rw[b.out.1,b.out.2.1];exact hmn) (by rw[b.out.2.2.1];exact hb0) (by rw[b.out.2.2.1];exact hb1) (by rw[b.out.2.2.2.1];exact Y.out) (by rw[b.out.2.2.2.2.1];exact hnw) (by rw[b.out.2.2.2.2.2.1];exact ho) _ i.out).mono ?_;rintro e w3 ⟨rfl,M',F,C⟩;have U:=Hh F;have t:=Hh (k.out.trans C);clear F C;go_wp2;go_end0;rw[y.out];exact⟨rfl,M',U.out,t.out⟩
  ·have Z:decide (20+2*R.me<=K)=false:=by simpa using z
   have y:=Hh (show R.tick=S by rw[q.out,if_neg (fun j=>l j.1),if_neg (fun j=>z j.2)]);clear l z;go_enter Tryz.func11,Tryz.ntmps11
   go_wp2_with fail;rw[<-B.out];clear s L r;refine fx (S:=nT p R.me R.role K) ?_;have d:Below V.heap.size V V.drew:=(Below.refl _ _).drew;have i:=Hh (o.out.below d);have a:nT p R.me R.role K V.drew:=by have j:=i.out.tickS;rw[b.out.1,b.out.2.2.2.2.2.2.1,b.out.2.2.2.2.2.2.2]at j;exact j
   refine hT 0 30 a ?_;refine hT 1 31 a ?_;refine hT 2 32 a ?_;refine hT 3 33 a ?_;refine hT 4 34 a ?_;refine hT 5 35 a ?_;refine hT 6 36 a ?_;refine hT 10 40 a ?_;refine hT 7 37 a ?_;refine hT 11 41 a ?_;refine hT 8 38 a ?_;refine hT 12 42 a ?_;refine hT 9 39 a ?_;refine hT 13 43 a ?_;refine aG 14 44 (v:= .int .i64 (2*R.me)) rfl rfl (by kernel_rfl) (by kernel_rfl) (by kernel_rfl) (fun _ _ _ h=>h) a (.inl ⟨by rfl,by intro w' g;clear g;go_simp;(try (all_goals rfl))⟩) ?_;simp only[List.set_cons_zero,List.set_cons_succ];refine aG 15 45 (v:= .int .i64 (20+2*R.me)) rfl rfl (by kernel_rfl) (by kernel_rfl) (by kernel_rfl) (fun _ _ _ h=>h) a (.inl ⟨by rfl,by intro w' g;clear g;go_simp;(try (all_goals rfl))⟩) ?_;simp only[List.set_cons_zero,List.set_cons_succ];refine aG 16 46 (v:= .bool false) rfl rfl (by kernel_rfl) (by kernel_rfl) (by kernel_rfl) (fun _ _ _ h=>h) a (.inl ⟨by rfl,by intro w' g;clear g;go_simp;(try (all_goals rfl))⟩) ?_;simp only[List.set_cons_zero,List.set_cons_succ];refine aG 17 47 (v:= .bool false) rfl rfl (by kernel_rfl) (by kernel_rfl) (by kernel_rfl) (fun _ _ _ h=>h) a (.inl ⟨by rfl,by intro w' g;clear g;go_simp;(try (all_goals rfl))⟩) ?_;simp only[List.set_cons_zero,List.set_cons_succ];refine hT 18 29 a ?_;refine dc ?_;have k:=Hh (m.out.trans (.ofBelow d));clear a d;go_wp2;go_end0;rw[y.out];exact⟨rfl,M,i.out,k.out⟩
end Go.Proofs.YtogcnfhmcpkdcaaGreat
namespace Go.Proofs.YtogcnfhmcpkdcaaGreat
open Go.RowKit
set_option linter.unusedVariables false
set_option linter.unusedSimpArgs false
structure gU (p lb:Nat) (ap cm:Int) (W:World):Prop where
 c4:W.cell? ⟨p,4,none⟩=some (.pointer (some ⟨lb,0,none⟩))
 c9:W.cell? ⟨p,9,none⟩=some (.int .i64 ap)
 c8:W.cell? ⟨p,8,none⟩=some (.int .i64 cm)
theorem ao.nextS{w:World}{p:Nat}{R:aa}{M:ay}(h:ao w p R M):gU p M.lb R.applied R.commit w:=⟨h.c rfl,h.c rfl,h.c rfl⟩
theorem ao.setApplied{w:World}{p:Nat}{R:aa}{M:ay}(h:ao w p R M)(x:Int):ao (w.setCell ⟨p,9,none⟩ (iz x)) p { R with applied:=x } M/\ah p M M w (w.setCell ⟨p,9,none⟩ (iz x)):=h.set 9 (iz x) (bg (by omega) rfl rfl rfl rfl rfl) (h.sv.cp rfl rfl rfl) rfl rfl rfl rfl
def kZ(p:Nat)(R:aa)(M:ay)(w:World)(e:Ending)(w':World):Prop:=
 match R.next.2 with
 | none=>e= .returned (.tuple #[.int .i64 0, .agg #[.int .i64 0, .slice none 0 0], .bool false])/\∃b,ao w' p R.next.1 b/\ah p M b w w'
 | some (i,it)=>∃a c,e= .returned (.tuple #[.int .i64 i, .agg #[.int .i64 it.1, .slice a it.2.length c], .bool true])/\cS w' a c it.2/\∃b,ao w' p R.next.1 b/\ah p M b w w'
theorem fh{P:Program}{c:Func}{s p u:Tmp}{a:TypeId}(h:c.results=#[.tmp s, .cell p a, .tmp u])(tmps:Array Value)(w:World)(g:Nat)(t:TypeId)(cs:Array Value)(fr:Nat×Nat)(d:TypeDesc)
 (e:tmps.getD p undef= .pointer (some ⟨g,0,none⟩))(hg:w.heap[g]? =some (.cells cs t fr))(hu:P.underlying a=some d)(hd:(match d with | .struct _ | .array _ _=>true | _=>false)=true)(hi:(P.info? a).map (·.size)=some cs.size):
  (results c tmps).run P w= .ok (.tuple #[tmps.getD s undef, .agg cs,tmps.getD u undef]) w:=by
 have b:tmps[p]?.getD undef= .pointer (some ⟨g,0,none⟩):=by simpa using e
 simp[results,h,b,asAddr,run_loadVar_row w g t a cs fr d hg hu hd hi]
structure wI (p:Nat) (R:aa) (M:ay) (B:Nat) (W:World) (it:ar) (U:World) (n:Nat) (a:Option Addr) (c:Nat):Prop where
 rf:ao U p R M
 by_ :cS U a c it.2
 bx:U.heap[n]? =some (.cells #[.int .i64 0, .slice none 0 0] 40 (0,0))
 bel:Below B W U
 le:B<=n
structure wJ (p n:Nat) (ap:Int) (it:ar) (a:Option Addr) (c:Nat) (W:World):Prop where
 c9:W.cell? ⟨p,9,none⟩=some (.int .i64 ap)
 bx:W.heap[n]? =some (.cells #[.int .i64 it.1, .slice a it.2.length c] 40 (0,0))
theorem ah.andBelow{p:Nat}{M M':ay}{w U V:World}(h:ah p M M' w U)(hb:Below w.heap.size U V):ah p M M' w V:=⟨hb.os.trans h.os,hb.tape.trans h.tape,hb.output.trans h.output,Nat.le_trans h.size hb.size,fun k a b=>(hb.block k a).trans (h.block k a b),h.fresh⟩
theorem ao.far{w w':World}{p:Nat}{R:aa}{M:ay}(h:ao w p R M){g:Nat}(d:¬M.own p g){cs:Array Value}{T:TypeId}{fr:Nat×Nat}(i:w.heap[g]? =some (.cells cs T fr))(hT:(T:Nat)≠5)(hi:∀m∈M.ps,m.ia.map (·.block)≠some g)(ho:∀k,k≠g->w'.heap[k]? =w.heap[k]?)(hs:w.heap.size<=w'.heap.size):ao w' p R M:=by
 have f:∀k cs fr,k<w.heap.size->w.heap[k]? =some (.cells cs 5 fr)->w'.heap[k]? =w.heap[k]? :=fun k l j _ a=>ho k (fun e=>by rw[e]at a;exact hT (aB i a))
 refine⟨h.sv,(ho _ (fun e=>d (.inl e.symm))).trans h.row,⟨(ho _ (fun e=>d (.inr (.inl e.symm)))).trans h.ln.row,aE h.ln.own fun k a=>ho k (fun e=>d (.inr (.inr (.inl (by rw[al]at a;rw[<-e];exact a))))),h.ln.its,fun m b=>OwnBs.grown (T:=5) (h.ln.bs m b) f hs,Nat.zero_le _⟩,OwnBs.grown (T:=5) h.st f hs,aE h.nw fun k a=>ho k (fun e=>d (.inr (.inr (.inr (.inl (by rw[al]at a;rw[<-e];exact a)))))),fun m b=>OwnBs.grown (T:=5) (h.nb m b) f hs,h.nq,aE h.ou fun k a=>ho k (fun e=>d (.inr (.inr (.inr (.inr (by rw[al]at a;rw[<-e];exact a)))))),h.oq,⟨h.po.q,h.po.c,fun m b=>(h.po.m m b).kept (fun k a=>ho k (fun e=>hi m b (by rw[<-e];exact a))) f hs,h.po.n⟩⟩
theorem qw(p:Nat)(R:aa)(M:ay)(hg:R.line.Good)(h0:R.line.base<=R.applied)(h1:R.applied<=R.commit)(h2:R.commit<=R.line.last)(w:World)(h:ao w p R M):
  Calls Tryz.prog 14 #[.pointer (some ⟨p,0,none⟩)] w (kZ p R M w):=by
 obtain⟨y,J⟩:∃y,y=w.alloc (.cells #[.int .i64 0, .slice none 0 0] 40):=⟨_,rfl⟩
 have hbW:Below w.heap.size w y:=by rw[J];exact(Below.refl _ _).alloc (Nat.le_refl _) _
 have O:=Hh (show y.heap[w.heap.size]? =some (.cells #[.int .i64 0, .slice none 0 0] 40 (0,0)) by rw[J];exact heap_alloc_new w _);have HR0:=Hh (h.below hbW);have HB0:=Hh hbW;have HW0:=Hh J;have HNW:=Hh (h.notNew (Nat.le_refl w.heap.size));have hs0:y.heap.size=w.heap.size+1:=by rw[J];simp
 have HG:=Hh hg;have HH:=Hh h;clear J hbW h hg;by_cases z:R.commit<=R.applied
 ·have t1:decide (R.commit<=R.applied)=true:=by simpa using z
  have HF:=Hh (show R.next=(R,none) by unfold aa.next;rw[if_pos z]);clear z;go_enter Tryz.func14,Tryz.ntmps14
  go_wp2_with fail;rw[<-HW0.out];refine fx (S:=gU p M.lb R.applied R.commit) ?_;have d:Below y.heap.size y y.drew:=(Below.refl _ _).drew;have P:=Hh (HR0.out.below d);have b:gU p M.lb R.applied R.commit y.drew:=P.out.nextS;refine hT 0 7 b ?_;refine hT 4 11 b ?_;refine hT 1 8 b ?_;refine hT 5 12 b ?_;refine hT 2 9 b ?_;refine hT 6 13 b ?_;refine hT 3 10 b ?_;refine hT 7 14 b ?_;refine hT 8 15 b ?_;refine dc ?_;have HROW1:=Hh (show y.drew.heap[w.heap.size]? =some (.cells #[.int .i64 0, .slice none 0 0] 40 (0,0)) from O.out);have HB1:=Hh (HB0.out.trans (d.mono HB0.out.size));clear b d;go_wp2_with (refine aI rfl 40 (.tmp 3) (.tmp 16) rfl w.heap.size #[.int .i64 0, .slice none 0 0] rfl rfl 40 _ HROW1.out cH rfl (by simp[Value.oneCell']) ?_;intro W5 hrow5 hoth5 hb5 hs5);refine bodyPost_ret (fh rfl _ _ w.heap.size 40 _ (0,0) _ rfl hrow5 Tryz.underlying40 rfl cH) rfl ?_;unfold kZ;rw[HF.out];have hbF:=HB1.out.trans hb5;exact⟨rfl,M,HH.out.below hbF, .ofBelow hbF⟩
 ·have t1:decide (R.commit<=R.applied)=false:=by simpa using z
  have HIN:=Hh (show R.line.base<R.applied+1/\R.applied+1<=R.line.last by omega);obtain⟨it,hit⟩:∃it,R.line.l.getD (R.applied+1-R.line.base-1).toNat (0,[])=it:=⟨_,rfl⟩
  have HIT:=Hh hit;obtain⟨L,hRn⟩:∃L:aa,L={ R with applied:=R.applied+1 }:=⟨_,rfl⟩
  have HF:=Hh (show R.next=(L,some (R.applied+1,it)) by unfold aa.next;rw[if_neg z,hRn];unfold aa.item;rw[if_pos HIN.out,hit])
  have wA:IntKind.i64.wrap (R.applied+1)=R.applied+1:=IntWalk.i64_in _ (by have:=HG.out.b0;have:=HG.out.n2;have hl:R.line.last=R.line.base+(R.line.l.length:Int):=rfl;omega)
  clear z hit;go_enter Tryz.func14,Tryz.ntmps14
  go_wp2_with fail;rw[<-HW0.out];refine fx (S:=gU p M.lb R.applied R.commit) ?_;obtain⟨W1,hW1⟩:∃W1,W1=y.drew:=⟨_,rfl⟩
  have d:Below y.heap.size y W1:=by rw[hW1];exact(Below.refl _ _).drew
  (refine(show wpAnyH _ _ _ _ _ _ _ _ y.drew from ?_))
  rw[<-hW1];clear hW1;have P:=Hh (HR0.out.below d);have b:gU p M.lb R.applied R.commit W1:=P.out.nextS;refine hT 0 7 b ?_;refine hT 4 11 b ?_;refine hT 1 8 b ?_;refine hT 5 12 b ?_;refine hT 2 9 b ?_;refine hT 6 13 b ?_;refine hT 3 10 b ?_;refine hT 7 14 b ?_;refine hT 8 15 b ?_;refine dc ?_;obtain⟨-,c9, -⟩:=b;have f9:=P.out.f 9;obtain⟨a2,b2⟩:=P.out.setApplied (R.applied+1);obtain⟨i,I⟩:∃i,i=W1.setCell ⟨p,9,none⟩ (iz (R.applied+1)):=⟨_,rfl⟩
  rw[<-I,<-hRn]at a2;rw[<-I]at b2;have D:=Hh a2;have HT2:=Hh ((ah.ofBelow HB0.out).trans ((ah.ofBelow d).trans b2));have g:=Hh (show L.applied=R.applied+1/\L.line=R.line/\L.commit=R.commit by rw[hRn];exact⟨rfl,rfl,rfl⟩);have hs2:y.heap.size<=i.heap.size:=by rw[I];simpa using d.size
  have HROW2:=Hh (show i.heap[w.heap.size]? =some (.cells #[.int .i64 0, .slice none 0 0] 40 (0,0)) from(b2.block _ (by have:=d.size;omega) HNW.out).trans ((d.block _ (by omega)).trans O.out));have HW2:=Hh I;clear a2 b2 I d hRn;go_wp2_with fail;rw[<-HW2.out];clear c9 f9;refine fx (S:=gU p M.lb (R.applied+1) R.commit) ?_;have d:Below i.heap.size i i.drew:=(Below.refl _ _).drew;have HR3:=Hh (D.out.below d);have b:gU p M.lb (R.applied+1) R.commit i.drew:=by have r:=HR3.out.nextS;rw[g.out.1,g.out.2.2]at r;exact r
  refine hT 0 25 b ?_;refine hT 4 29 b ?_;refine hT 1 26 b ?_;refine hT 5 30 b ?_;refine hT 2 27 b ?_;refine hT 6 31 b ?_;refine hT 3 28 b ?_;refine hT 7 32 b ?_;have HS0:=Hh b;have HDR:=Hh d;have HLN3:=Hh (show cE i.drew 0 M.lb R.line M.la M.lc M.ms by have r:=HR3.out.ln;rw[g.out.2.1]at r;exact r);clear b d;obtain⟨B0,hB0⟩:∃B0,B0=i.heap.size:=⟨_,rfl⟩
  have F:=Hh hB0;clear hB0;apply wR (fun U n a c=>wI p L M B0 i it U n a c);intro hway;refine nU 8 12 ?_ ?_
  ·go_simp;refine(kP 0 M.lb R.line HG.out M.la M.lc M.ms (R.applied+1) _ HLN3.out).mono ?_;rintro e C h4;unfold dH at h4;rw[if_pos HIN.out]at h4;obtain⟨a4,c4,rfl,x,A⟩:=h4;rw[HIT.out]at x ⊢;have q:Below i.heap.size i C:=HDR.out.trans A;have t:=D.out.below q;have o:gU p M.lb (R.applied+1) R.commit C:=by have r:=t.nextS;rw[g.out.1,g.out.2.2]at r;exact r
   have HR4:=Hh t;have a0:=Hh q;have HBY:=Hh x;clear A q t x;refine⟨o,?_⟩;refine hT 9 24 o ?_;refine aG 10 34 (v:= .agg #[.int .i64 it.1, .slice a4 it.2.length c4]) rfl rfl (by kernel_rfl) (by kernel_rfl) (by kernel_rfl) (fun _ _ _ h=>h) o (.inl ⟨by rfl,by intro w' B;clear B;go_simp;(try (all_goals rfl))⟩) ?_;simp only[List.set_cons_zero,List.set_cons_succ];refine aG 11 35 (v:= .bool true) rfl rfl (by kernel_rfl) (by kernel_rfl) (by kernel_rfl) (fun _ _ _ h=>h) o (.inl ⟨by rfl,by intro w' B;clear B;go_simp;(try (all_goals rfl))⟩) ?_;simp only[List.set_cons_zero,List.set_cons_succ];have HS4:=Hh o;clear o;refine bp 12 ?_;go_simp;obtain⟨U,hU⟩:∃U,U=C.alloc (.cells #[.int .i64 0, .slice none 0 0] 40):=⟨_,rfl⟩
   rw[<-hU];have hbU:Below C.heap.size C U:=by rw[hU];exact(Below.refl _ _).alloc (Nat.le_refl _) _
   have hrU:=HR4.out.below hbU;have hSU:gU p M.lb (R.applied+1) R.commit U:=by have r:=hrU.nextS;rw[g.out.1,g.out.2.2]at r;exact r
   refine⟨hSU,?_⟩;have j:wI p L M B0 i it U C.heap.size a4 c4:=⟨hrU,HBY.out.below hbU,by rw[hU];exact heap_alloc_new C _,by rw[F.out];exact a0.out.trans (hbU.mono a0.out.size),by rw[F.out];exact a0.out.size⟩
   clear hSU hrU hbU hU;generalize C.heap.size=n at j ⊢;exact hway U n a4 c4 j
  ·go_simp;obtain⟨V3,hV3⟩:∃V3,V3=(i.alloc (.cells #[.int .i64 0, .slice none 0 0] 40)).drew:=⟨_,rfl⟩
   rw[<-hV3];have hb3:Below i.heap.size i V3:=by rw[hV3];exact((Below.refl _ _).alloc (Nat.le_refl _) _).drew
   have H:V3.heap[i.heap.size]? =some (.cells #[.int .i64 0, .slice none 0 0] 40 (0,0)):=by rw[hV3];exact heap_alloc_new i _
   have hs3:i.heap.size<V3.heap.size:=(Array.getElem?_eq_some_iff.1 H).1;have hr3:=D.out.below hb3;have hS3:gU p M.lb (R.applied+1) R.commit V3:=by have r:=hr3.nextS;rw[g.out.1,g.out.2.2]at r;exact r
   have hln3:cE V3 0 M.lb R.line M.la M.lc M.ms:=by have r:=hr3.ln;rw[g.out.2.1]at r;exact r
   have HB3:=Hh hb3;have HBX3:=Hh H;have HLN4:=Hh hln3;have HS3:=Hh hS3;clear hV3 hb3 H hr3 hS3 hln3;refine⟨HS3.out,?_⟩;refine bp 8 ?_;go_simp;refine(kP 0 M.lb R.line HG.out M.la M.lc M.ms (R.applied+1) _ HLN4.out).mono ?_;rintro e C h4;unfold dH at h4;rw[if_pos HIN.out]at h4;obtain⟨a4,c4,rfl,x,A⟩:=h4;rw[HIT.out]at x ⊢;have q:Below i.heap.size i C:=HB3.out.trans (A.mono HB3.out.size);have t:=D.out.below q;have o:gU p M.lb (R.applied+1) R.commit C:=by have r:=t.nextS;rw[g.out.1,g.out.2.2]at r;exact r
   refine⟨o,?_⟩;have j:wI p L M B0 i it C i.heap.size a4 c4:=⟨t,x,(A.block _ hs3).trans HBX3.out,by rw[F.out];exact q,by rw[F.out];exact Nat.le_refl _⟩
   clear q t A x;refine hT 9 24 o ?_;refine aG 10 34 (v:= .agg #[.int .i64 it.1, .slice a4 it.2.length c4]) rfl rfl (by kernel_rfl) (by kernel_rfl) (by kernel_rfl) (fun _ _ _ h=>h) o (.inl ⟨by rfl,by intro w' B;clear B;go_simp;(try (all_goals rfl))⟩) ?_;simp only[List.set_cons_zero,List.set_cons_succ];refine aG 11 35 (v:= .bool true) rfl rfl (by kernel_rfl) (by kernel_rfl) (by kernel_rfl) (fun _ _ _ h=>h) o (.inl ⟨by rfl,by intro w' B;clear B;go_simp;(try (all_goals rfl))⟩) ?_;simp only[List.set_cons_zero,List.set_cons_succ];clear o;generalize i.heap.size=n at j ⊢;exact hway C n a4 c4 j
  intro U n a c j;have HRU:=Hh j.rf;have HBY:=Hh j.by_;have W:=Hh j.bx;have HBU:=Hh (show Below i.heap.size i U by rw[<-F.out];exact j.bel);have hnB:i.heap.size<=n:=by rw[<-F.out];exact j.le
  clear j;have hnU:n<U.heap.size:=(Array.getElem?_eq_some_iff.1 W.out).1;refine bp 13 ?_;refine wp_store_row 40 (.tmp 5) (.tmp 34) rfl n #[.int .i64 it.1, .slice a it.2.length c] rfl rfl 40 _ W.out cH rfl (by simp[Value.oneCell']) ?_;obtain⟨X,hX⟩:∃X,X=U.setRow n #[.int .i64 it.1, .slice a it.2.length c]:=⟨_,rfl⟩
  rw[<-hX];have hoX:∀k,k≠n->X.heap[k]? =U.heap[k]? :=fun k hk=>by rw[hX];exact setRow_other _ _ _ _ hk
  have hsX:X.heap.size=U.heap.size:=by rw[hX];simp
  have hbX:Below i.heap.size U X:=by rw[hX];exact ex U _ hnB
  have hrX:=setRow_heap U n _ #[.int .i64 it.1, .slice a it.2.length c] 40 _ W.out;rw[<-hX]at hrX;have hnot:¬M.own p n:=D.out.notNew hnB;have hRX:ao X p L M:=HRU.out.far hnot W.out (by decide) (fun m hm e=>by have:=(D.out.po.m m hm).block e;omega) hoX (by omega);have hSX:gU p M.lb (R.applied+1) R.commit X:=by have r:=hRX.nextS;rw[g.out.1,g.out.2.2]at r;exact r
  have HBYX:=Hh (show cS X a c it.2 from OwnBs.grown (T:=5) HBY.out (fun k cs fr _ hk=>hoX k (fun e=>by rw[e]at hk;exact absurd (aB W.out hk) (by decide))) (by omega));have HRX:=Hh hRX;have N:=Hh hrX;have V:=Hh (HBU.out.trans hbX);refine⟨hSX,?_⟩;refine hT 14 6 hSX ?_;refine dc ?_;have hsX2:=V.out.size;have HROWR:=Hh ((V.out.block w.heap.size (by omega)).trans HROW2.out);clear hX hoX hsX hbX hrX hRX hSX hnot hnU;go_wp2_with fail;refine fx (S:=wJ p n (R.applied+1) it a c) ?_;obtain⟨Y,hY⟩:∃Y,Y=X.drew:=⟨_,rfl⟩
  have d:Below X.heap.size X Y:=by rw[hY];exact(Below.refl _ _).drew
  have hnX:n<X.heap.size:=(Array.getElem?_eq_some_iff.1 N.out).1
  (refine(show wpAnyH _ _ _ _ _ _ _ _ X.drew from ?_))
  rw[<-hY];clear hY;have HRY:=Hh (HRX.out.below d);have s:=Hh ((d.block _ (by omega)).trans HROWR.out);have G:=(d.block n hnX).trans N.out;have HBXY:=Hh G;have b:wJ p n (R.applied+1) it a c Y:=⟨by rw[<-g.out.1];exact HRY.out.c rfl,G⟩
  refine aG 0 36 rfl rfl (by kernel_rfl) (by kernel_rfl) (by kernel_rfl) (fun _ _ _ h=>h) b (.inl ⟨by rfl,by intro w' B;clear B;go_simp;(try rfl)⟩) ?_;simp only[List.set_cons_zero,List.set_cons_succ];refine aG 4 40 (v:= .agg #[.int .i64 it.1, .slice a it.2.length c]) rfl rfl (by kernel_rfl) (by kernel_rfl) (by kernel_rfl) (fun _ _ _ h=>h) b (.inl ⟨by rfl,by intro w' B;have b0:=cell_of_row w' n 0 _ _ _ B.bx;have b1:=cell_of_row w' n 1 _ _ _ B.bx;clear B;go_simp;(try (all_goals rfl))⟩) ?_;simp only[List.set_cons_zero,List.set_cons_succ];refine hT 1 37 b ?_;refine hT 2 38 b ?_;refine hT 3 39 b ?_;refine hT 5 2 b ?_;clear b;refine bp 6 ?_;refine wp_store_row 40 (.tmp 3) (.tmp 40) rfl w.heap.size #[.int .i64 it.1, .slice a it.2.length c] rfl rfl 40 _ s.out cH rfl (by simp[Value.oneCell']) ?_;obtain⟨Z,hZ⟩:∃Z,Z=Y.setRow w.heap.size #[.int .i64 it.1, .slice a it.2.length c]:=⟨_,rfl⟩
  rw[<-hZ];have a1:∀k,k≠w.heap.size->Z.heap[k]? =Y.heap[k]? :=fun k hk=>by rw[hZ];exact setRow_other _ _ _ _ hk
  have hsZ:Z.heap.size=Y.heap.size:=by rw[hZ];simp
  have hbZ:Below w.heap.size Y Z:=by rw[hZ];exact ex Y _ (Nat.le_refl _)
  have hrZ:=setRow_heap Y w.heap.size _ #[.int .i64 it.1, .slice a it.2.length c] 40 _ s.out;rw[<-hZ]at hrZ;have hRZ:ao Z p L M:=HRY.out.far HNW.out s.out (by decide) (fun m hm e=>by have:=(HH.out.po.m m hm).block e;omega) a1 (by omega);have hSZ:wJ p n (R.applied+1) it a c Z:=⟨by rw[<-g.out.1];exact hRZ.c rfl,(a1 n (by omega)).trans HBXY.out⟩
  have HBYZ:=Hh (show cS Z a c it.2 from OwnBs.grown (T:=5) (HBYX.out.below d) (fun k cs fr _ hk=>a1 k (fun e=>by rw[e]at hk;exact absurd (aB s.out hk) (by decide))) (by omega));have HRZ:=Hh hRZ;have HROWZ:=Hh hrZ;have HTZ:=Hh (show ah p M M w Z from((HT2.out.trans (.ofBelow V.out)).trans (.ofBelow d)).andBelow hbZ);refine⟨hSZ,?_⟩;refine hT 7 4 hSZ ?_;refine dc ?_;clear hSZ hZ a1 hsZ hbZ hrZ hRZ d G;go_wp2;refine bodyPost_ret (fh rfl _ _ w.heap.size 40 _ (0,0) _ rfl HROWZ.out Tryz.underlying40 rfl cH) rfl ?_;unfold kZ;rw[HF.out];exact⟨a,c,rfl,HBYZ.out,M,HRZ.out,HTZ.out⟩
theorem i5(p:Nat)(R:aa)(M:ay)(ba:Option Addr)(bc:Nat)(b:List UInt8)(hn1:1<=R.n)(hn7:R.n<=7)(hm0:0<=R.me)(hmn:R.me<R.n)(hg:R.line.Good)(hx:∀x∈R.nxt,0<=x/\x<=1099511627777)(hnw:R.news.length<=999990000)(ho:R.out.length<=999999000)(w:World)(hb:aM w w.heap.size ba b.length bc b)(h:ao w p R M):
  Calls Tryz.prog 13 #[.pointer (some ⟨p,0,none⟩), .slice ba b.length bc] w fun e w'=>e= .returned (.tuple #[.int .i64 (R.propose b).2.1, .int .i64 (R.propose b).2.2])/\∃M',ao w' p (R.propose b).1 M'/\ah p M M' w w':=by
 have c6:w.cell? ⟨p,6,none⟩=some (.int .i64 R.role):=h.c rfl;have HR:=Hh h;have HG:=Hh hg;have HX:=Hh hx;have HB:=Hh hb;clear h hg hx hb;by_cases r:R.role=2
 case neg=>
  have t1:(R.role !=2)=true:=by simpa using r
  have s:=Hh (show R.propose b=(R,0,22) by unfold aa.propose;rw[if_pos r]);clear r;go_enter Tryz.func13,Tryz.ntmps13
  go_wp2;go_ret2;rw[s.out];exact⟨rfl,M,HR.out, .refl _ _ _⟩
 have t1:(R.role !=2)=false:=by simp[r]
 by_cases t:b.length=0
 ·have t2:((b.length:Int)==0)=true:=by simp[t]
  have s:=Hh (show R.propose b=(R,0,1) by unfold aa.propose;rw[if_neg (by simp[r]),if_pos t]);obtain⟨n,P⟩:∃n,n=b.length:=⟨_,rfl⟩
  rw[<-P]at t2 ⊢;clear r t P;go_enter Tryz.func13,Tryz.ntmps13
  go_wp2;go_ret2;rw[s.out];exact⟨rfl,M,HR.out, .refl _ _ _⟩
 have t2:((b.length:Int)==0)=false:=by simp;exact fun e=>t (by simp[e])
 by_cases Y:8192<b.length
 ·have t3:decide ((8192:Int)<(b.length:Int))=true:=by simp;omega
  have s:=Hh (show R.propose b=(R,0,4) by unfold aa.propose;rw[if_neg (by simp[r]),if_neg t,if_pos Y]);obtain⟨n,P⟩:∃n,n=b.length:=⟨_,rfl⟩
  rw[<-P]at t2 t3 ⊢;clear r t Y P;go_enter Tryz.func13,Tryz.ntmps13
  go_wp2;go_ret2;rw[s.out];exact⟨rfl,M,HR.out, .refl _ _ _⟩
 have t3:decide ((8192:Int)<(b.length:Int))=false:=by simp;omega
 obtain⟨A,W⟩:∃A,(R.line.add (R.bt,b)).2=A:=⟨_,rfl⟩
 obtain⟨d,m⟩:∃d:aa,d={ R with line:=(R.line.add (R.bt,b)).1 }:=⟨_,rfl⟩
 have HP:=Hh (show R.propose b=if A=0 then(R,0,18) else(((d.noteItems A).look).others aa.send,A,0) by unfold aa.propose;rw[if_neg (by simp[r]),if_neg t,if_neg Y,m,<-W];rfl)
 have k:=wC R.line HG.out (R.bt,b);rw[W]at k;have G:=Hh (show d.line.Good by rw[m];exact HG.out.add _);have f:=Hh (show d.news=R.news/\d.out=R.out/\d.n=R.n/\d.me=R.me/\d.nxt=R.nxt by rw[m];exact⟨rfl,rfl,rfl,rfl,rfl⟩);have HA:=Hh W;have q:=Hh m;clear r t Y W m;go_enter Tryz.func13,Tryz.ntmps13
 go_wp2_with fail;refine fx (S:=sS p M.lb R.bt) ?_;have j:Below w.heap.size w w.drew:=(Below.refl _ _).drew;have F:=Hh (HR.out.below j);have a:sS p M.lb R.bt w.drew:=F.out.addR;refine hT 0 21 a ?_;refine hT 4 25 a ?_;refine hT 9 30 a ?_;refine hT 1 22 a ?_;refine hT 5 26 a ?_;refine hT 2 23 a ?_;refine hT 6 27 a ?_;refine hT 3 24 a ?_;refine hT 7 28 a ?_;refine hT 8 29 a ?_;refine aG 10 31 (v:= .agg #[.int .i64 R.bt, .slice ba b.length bc]) rfl rfl (by kernel_rfl) (by kernel_rfl) (by kernel_rfl) (fun _ _ _ h=>h) a (.inl ⟨by rfl,by intro w' hS;clear hS;go_simp;(try (all_goals rfl))⟩) ?_;simp only[List.set_cons_zero,List.set_cons_succ];clear a c6;refine bp 11 ?_;go_simp;refine(mj 0 M.lb R.line HG.out M.la M.lc M.ms R.bt ba bc b _ F.out.ln ((HB.out.below j (Nat.le_refl _)).mono j.size) (Nat.zero_le _)).mono ?_;rintro e w2 ⟨rfl,T⟩;rw[HA.out];obtain⟨la,lc,ms,i,z⟩:=F.out.lined T;rw[<-q.out]at i;obtain⟨Z,C⟩:∃Z:ay,Z={ M with la:=la,lc:=lc,ms:=ms }:=⟨_,rfl⟩
 rw[<-C]at i z;have V:=Hh i;have U:=Hh ((ah.ofBelow j).trans z);have B:sS p M.lb R.bt w2:=by have D:=i.addR;rw[C,q.out]at D;exact D
 refine⟨B,?_⟩;refine hT 12 6 B ?_;refine dc ?_;clear B j T i z C;by_cases y:A=0
 ·have t4:(A==0)=true:=by simpa using y
  have s:=Hh (show R.propose b=(R,0,18) by rw[HP.out,if_pos y]);have g:d=R:=by
   rw[q.out];have D:(R.line.add (R.bt,b)).1=R.line:=by
    have X:=HA.out;rw[y]at X;unfold ae.add at X ⊢;split at X
    ·rename_i h7
     have hl:R.line.last=R.line.base+(R.line.l.length:Int):=rfl;have:=HG.out.b0;simp only at X;omega
    ·rename_i h7;rw[if_neg h7]
   rw[D]
  have HSM:=Hh g;clear y k g;go_wp2;go_ret2;rw[s.out];exact⟨rfl,Z,by have D:=V.out;rw[HSM.out]at D;exact D,U.out⟩
 ·have t4:(A==0)=false:=by simpa using y
  have s:=Hh (show R.propose b=(((d.noteItems A).look).others aa.send,A,0) by rw[HP.out,if_neg y]);have HNI:=Hh (fW p d Z A k.1 k.2 G.out (by rw[f.out.1];omega) _ V.out);clear y k;go_wp2_with fail;refine HNI.out.mono ?_;rintro e w4 ⟨rfl,M4,O,J⟩;have HR4:=Hh O;have HT4:=Hh (U.out.trans J);clear O J;go_wp2_with fail;refine(mQ p (d.noteItems A) M4 (by show 1<=d.n;rw[f.out.2.2.1];exact hn1) (by show d.n<=7;rw[f.out.2.2.1];exact hn7) (by show 0<=d.me;rw[f.out.2.2.2.1];exact hm0) (by show d.me<d.n;rw[f.out.2.2.1,f.out.2.2.2.1];exact hmn) G.out _ HR4.out).mono ?_;rintro e w5 ⟨rfl,M5,N,I⟩;have HR5:=Hh N;have HT5:=Hh (HT4.out.trans I);have o:=Hh (show(d.noteItems A).look.n=R.n/\(d.noteItems A).look.line=d.line/\(d.noteItems A).look.nxt=R.nxt/\(d.noteItems A).look.out=R.out by obtain⟨m9,c9,hl9, -, -⟩:=ch (d.noteItems A);rw[hl9];exact⟨f.out.2.2.1,rfl,f.out.2.2.2.2,f.out.2.1⟩)
  clear N I;go_wp2_with fail;refine(mT p _ M5 (by rw[o.out.1];omega) (by rw[o.out.1];exact hn7) (by rw[o.out.2.1];exact G.out) (by rw[o.out.2.2.1];exact HX.out) (by rw[o.out.2.2.2];exact ho) _ HR5.out).mono ?_;rintro e w6 ⟨rfl,M6,L,H⟩;have HR6:=Hh L;have HT6:=Hh (HT5.out.trans H);clear L H;go_wp2;go_ret2;rw[s.out];exact⟨rfl,M6,HR6.out,HT6.out⟩
end Go.Proofs.YtogcnfhmcpkdcaaGreat
