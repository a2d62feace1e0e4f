/-
Walks of a group: what a replica did is collected (collect).
-/
import Derived.Test.YtogcnfhmcpkdcaaGreatGrH
namespace Go.Proofs.YtogcnfhmcpkdcaaGreat
open Go.RowKit
set_option linter.unusedVariables false
set_option linter.unusedSimpArgs false
section
variable {w w' w1 : World} {B g c : Nat} {G : ac} {M : bG} {i : Nat}
set_option maxRecDepth 100000 in
set_option maxHeartbeats 4000000 in
theorem eP{N:ay}{p n:Nat}{R:aa}(h:aA w B g i G M)(hq:M.ps[i]? =some (p,N))(hcw:Cw G i n R):
  Calls Tryz.prog 27 #[.pointer (some ⟨g,0,none⟩), .int .i64 i] w fun e w'=>e= .returned (.tuple #[])/\∃M' N',aA w' B g i (G.coll i R) M'/\M'.ps[i]? =some (p,N')/\N'.ps= []/\Below B w w':=by
 obtain⟨b0,hb1,hb2,hb3⟩:=h.ptr hq;have hi0:(0:Int)<=(i:Int):=by omega
 have hin:i<M.ps.length:=(List.getElem?_eq_some_iff.1 hq).1;have hi1:(i:Int)<(M.ps.length:Int):=by omega
 have c0:w.cell? ⟨g,0,none⟩=some (.slice (some ⟨b0,0,none⟩) M.ps.length (M.rc 0)):=by rw[<-hb1];exact h.cl (i:=0) (by omega)
 have HRF:=Hh (h.rf i R (p,N) hcw.hR hq);have H:=Hh h;have HQ:=Hh hq;have z:=Hh hcw;clear h hq hb1 hcw;go_enter Tryz.func27,Tryz.ntmps27
 go_wp2_with fail;refine(vf HRF.out).mono ?_;intro e w2 hj2;obtain⟨sa,sl,sc,jb,X,rfl,hjb,hr0,ht0,hsl⟩:∃sa sl sc jb X,e= .returned (.tuple #[.slice sa sl sc, .bool jb])/\jb=R.jumped/\ao w2 p R.jump.1 X/\ah p N X w w2/\(R.jumped=true->sl=2/\cS w2 sa sc R.state/\R.state.length=2):=by
  unfold pY at hj2;cases hj:R.jumped with
  | true=>
   have e1:R.jump=({ R with jumped:=false,news:= [] },some R.state):=by unfold aa.jump;rw[if_pos hj]
   rw[e1]at hj2 ⊢;obtain⟨a,k,e2,hby,X,hr,ht⟩:=hj2;have hl:=z.out.j hj;exact⟨a,R.state.length,k,true,X,e2,rfl,hr,ht,fun _=>⟨hl,hby,hl⟩⟩
  | false=>
   have e1:R.jump=(R,none):=by unfold aa.jump;rw[if_neg (by rw[hj];simp)]
   rw[e1]at hj2 ⊢;obtain⟨e2,e3⟩:=hj2;subst e3;exact⟨none,0,0,false,N,e2,rfl,HRF.out,ah.refl _ _ _,fun e=>(by cases e)⟩
 obtain⟨R0,hR0⟩:∃R0,R0=R.jump.1:=⟨_,rfl⟩
 rw[<-hR0]at hr0;have hg0:=H.out.putRaft z.out.hR HQ.out hr0 ht0;have HB0:=Hh (ht0.below (fun k hk=>H.out.inn (.raft i) k ⟨_,HQ.out,hk⟩) H.out.bs);obtain⟨M0,hM0⟩:∃M0:bG,M0={ M with ps:=M.ps.set i (p,X) }:=⟨_,rfl⟩
 have HG0:=Hh (show aA w2 B g i { G with rs:=G.rs.set i R0 } M0 by rw[hM0];exact hg0);have HQ0:=Hh (show M0.ps[i]? =some (p,X) by rw[hM0];show(M.ps.set i _)[i]? =_;rw[aZ hin,if_pos rfl]);have HSL:=Hh hsl;have HJB:=Hh hjb;have HR0:=Hh hR0;have hil:i<G.rs.length:=(List.getElem?_eq_some_iff.1 z.out.hR).1;clear c0 hb2 hr0 ht0 hsl hjb hg0 hR0 hM0;go_upto_if 26 with fail
 obtain⟨wo,hwo⟩:∃wo:World,wo=w:=⟨_,rfl⟩
 rw[<-hwo]at HB0;have HWO:=Hh hwo;clear hwo;go_cut [] (fun wc=>∃MJ,aA wc B g i { G.jumpd i R with rs:=(G.jumpd i R).rs.set i R0 } MJ/\MJ.ps[i]? =some (p,X)/\Below B wo wc)
 case first=>
  as_aux_lemma=>
   cases jb with
   | true=>
    have hj:R.jumped=true:=HJB.out.symm;have HJ:=Hh hj;obtain⟨hs2,hby,hst2⟩:=HSL.out hj;subst hs2;have HHL:=Hh (show M0.hs.length=G.hd.length by have d:=congrArg List.length HG0.out.ct.hq;simpa using d);obtain⟨b1,h11,h12, -, -, -⟩:=HG0.out.rowAt (j:=1) (by omega) rfl (k:=i) (by show i<M0.hs.length;rw[HHL.out];exact z.out.hl);have hh1:bR { G with rs:=G.rs.set i R0 } M0 1=M0.hs.length:=rfl;rw[hh1]at h12;have hi2:(i:Int)<(M0.hs.length:Int):=by have h8:=z.out.hl;have d:=HHL.out;omega
    have HBY:=Hh hby;have HST2:=Hh hst2;have HS0:=Hh (show yA g b1 M0.hs.length (M0.rc 1) w2 from⟨HG0.out.lt (x:= .g) rfl,h12⟩);have H11:=Hh h11;clear hby hst2 h11 h12 hh1;clear hj;go_wp2_with fail;refine lT (S:=yA g b1 M0.hs.length (M0.rc 1)) ?_;intro w3 I;have HG3:=Hh (HG0.out.below I);have D:yA g b1 M0.hs.length (M0.rc 1) w3:=HS0.out.below I;refine hT 0 27 D ?_;refine hT 4 31 D ?_;refine hT 5 32 D ?_;refine hT 1 28 D ?_;refine hT 2 29 D ?_;refine hT 3 30 D ?_;have HSX:=Hh D;clear D;have hokR:=z.out.ok;have hrf3:=HG3.out.rf i R0 (p,X) (by show(G.rs.set i R0)[i]? =_;rw[aZ hil,if_pos rfl]) HQ0.out;have hR0e:R0={ R with jumped:=false,news:=if R.jumped=true then[] else R.news }:=by rw[HR0.out,kq]
    refine bp 6 ?_;go_simp;refine(mS p R0 X (by rw[hR0e];exact hokR.bt0) (by rw[hR0e];exact hokR.bt1) (by rw[hR0e];exact hokR.bf0) (by rw[hR0e];exact hokR.bf1) (by rw[hR0e];exact hokR.line) (by rw[hR0e];exact z.out.pt) (by rw[hR0e];have:=hokR.st;show R.state.length<=_;omega) _ hrf3).mono ?_;rintro e w7 ⟨ha7,hc7,rfl,hby7,hb7, -⟩;have hS7:=HSX.out.below hb7;have hg7:=HG3.out.below hb7;have HBY7:=Hh (OwnBs.below HBY.out (I.trans (hb7.mono I.size)));have HB7:=Hh (HB0.out.trans ((I.trans (hb7.mono I.size)).mono HG0.out.bs));obtain⟨s1,hs11, -,k1,f1,cs1,hk1⟩:=hg7.rowAt (j:=1) (by omega) rfl (k:=i) (by show i<M0.hs.length;rw[HHL.out];exact z.out.hl);have hse:s1=b1:=by rw[H11.out]at hs11;injection hs11 with e;injection e with e;exact e.symm
    subst hse;obtain⟨mh,hmh⟩:∃mh,M0.hs[i]? =some mh:=⟨_,List.getElem?_eq_getElem (by rw[HHL.out];exact z.out.hl)⟩
    replace k1:w7.cell? ⟨s1,i,none⟩=some mh.cell:=by rw[k1];show(M0.hs.map aV.cell)[i]? =_;rw[List.getElem?_map,hmh];rfl
    refine⟨hS7,?_⟩;refine hT 7 34 hS7 ?_;refine bp 8 ?_;refine aj 27 (.tmp 34) (.tmp 33) rfl s1 i (.slice ha7 R0.head.length hc7) _ rfl rfl rfl nB k1 f1 ?_;have hg8:=hg7.setHead (i:=i) (b:=s1) (cap:=M0.rc 1) (by rw[HHL.out];exact z.out.hl) (by show Value.slice (M0.ra 1) M0.hs.length (M0.rc 1)=_;rw[hs11]) ⟨ha7,hc7,R0.head⟩ hby7;have hcl8:aV.cell ⟨ha7,hc7,R0.head⟩= .slice ha7 R0.head.length hc7:=rfl;rw[hcl8]at hg8;have hby8:=cS.store HBY7.out (b:=s1) (j:=i) (v:= .slice ha7 R0.head.length hc7) hk1 (by decide);have hsg:s1≠g:=fun e=>by have d:=hg7.dis .g (.row 1) s1 e ⟨by omega,by rw[hs11];rfl⟩;cases d
    obtain⟨V8,hV8⟩:∃V8,V8=w7.setCell ⟨s1,i,none⟩ (.slice ha7 R0.head.length hc7):=⟨_,rfl⟩
    have hS8:yA g s1 M0.hs.length (M0.rc 1) V8:=⟨by rw[hV8];have d:=hS7.s;simpa using d,by rw[hV8];exact(cZ (Below.heap_setCell _ _ _ _ (Ne.symm hsg))).trans hS7.c1⟩
    have HB8:=Hh (show Below B wo V8 from HB7.out.trans (by rw[hV8];exact bQ (hg7.inn (.row 1) s1 ⟨by omega,by rw[hs11];rfl⟩) _));rw[<-hV8]at hg8 hby8 ⊢;obtain⟨M8,hM8⟩:∃M8:bG,M8={ M0 with hs:=M0.hs.set i ⟨ha7,hc7,R0.head⟩ }:=⟨_,rfl⟩
    have HG8:=Hh (show aA V8 B g i { G with rs:=G.rs.set i R0,hd:=G.hd.set i R0.head } M8 by rw[hM8];exact hg8);have HBY8:=Hh hby8;have HQ8:=Hh (show M8.ps[i]? =some (p,X) by rw[hM8];exact HQ0.out);refine⟨hS8,dc ?_⟩;clear hg7 hg8 hby8 hS7 hS8 hV8 hM8 hb7 I hby7 hs11 k1 f1 hk1 hmh hsg hi2 hrf3 hR0e;have htl:M8.ts.length=G.nt.length:=by have d:=congrArg List.length HG8.out.ct.tq;simpa using d
    obtain⟨s2,hs21,c2,k2,f2,cs2,hk2⟩:=HG8.out.rowAt (j:=2) (by omega) rfl (k:=i) (by show i<M8.ts.length;rw[htl];exact z.out.il);obtain⟨mt,hmt⟩:∃mt,M8.ts[i]? =some mt:=⟨_,List.getElem?_eq_getElem (by rw[htl];exact z.out.il)⟩
    replace k2:V8.cell? ⟨s2,i,none⟩=some mt.cell:=by rw[k2];show(M8.ts.map d9.cell)[i]? =_;rw[List.getElem?_map,hmt];rfl
    replace c2:V8.cell? ⟨g,2,none⟩=some (.slice (some ⟨s2,0,none⟩) M8.ts.length (M8.rc 2)):=c2;have hi2:(i:Int)<(M8.ts.length:Int):=by have:=z.out.il;omega
    have hg9:=HG8.out.setNotes (i:=i) (b:=s2) (cap:=M8.rc 2) (by rw[htl];exact z.out.il) (by show Value.slice (M8.ra 2) M8.ts.length (M8.rc 2)=_;rw[hs21]) ⟨none,0,[]⟩ ⟨rfl, .inl ⟨rfl,rfl⟩⟩ (fun m hm=>by cases hm) (fun k hk=>by cases hk);have hcl9:d9.cell ⟨none,0,[]⟩= .slice none 0 0:=rfl;have hnt9:d9.p ⟨none,0,[]⟩= []:=rfl;rw[hcl9,hnt9]at hg9;have hby9:=cS.store HBY8.out (b:=s2) (j:=i) (v:= .slice none 0 0) hk2 (by decide);obtain⟨V9,hV9⟩:∃V9,V9=V8.setCell ⟨s2,i,none⟩ (.slice none 0 0):=⟨_,rfl⟩
    have HB9:=Hh (show Below B wo V9 from HB8.out.trans (by rw[hV9];exact bQ (HG8.out.inn (.row 2) s2 ⟨by omega,by rw[hs21];rfl⟩) _));rw[<-hV9]at hg9 hby9;obtain⟨M9,hM9⟩:∃M9:bG,M9={ M8 with ts:=M8.ts.set i ⟨none,0,[]⟩ }:=⟨_,rfl⟩
    have HG9:=Hh (show aA V9 B g i { G with rs:=G.rs.set i R0,hd:=G.hd.set i R0.head,nt:=G.nt.set i [] } M9 by rw[hM9];exact hg9);have HBY9:=Hh hby9;have HQ9:=Hh (show M9.ps[i]? =some (p,X) by rw[hM9];exact HQ8.out);have hsg2:s2≠g:=fun e=>by have d:=HG8.out.dis .g (.row 2) s2 e ⟨by omega,by rw[hs21];rfl⟩;cases d
    have cr:V8.cell? ⟨g,8,none⟩=some (.bool true):=by have d:=HG8.out.cr;rw[d];show some (Value.bool G.right)=_;rw[z.out.r]
    have cr9:(V8.setCell ⟨s2,i,none⟩ (.slice none 0 0)).cell? ⟨g,8,none⟩=some (.bool true):=(cZ (Below.heap_setCell _ _ _ _ (Ne.symm hsg2))).trans cr;have fr9:(V8.setCell ⟨s2,i,none⟩ (.slice none 0 0)).frozen? ⟨g,8,none⟩=false:=by rw[<-hV9];exact HG9.out.f 8
    have HV9:=Hh hV9;have hgA:=HG9.out.setRight true;have hbyA:=cS.store HBY9.out (b:=g) (j:=8) (v:= .bool true) HG9.out.row (by decide);obtain⟨VA,hVA⟩:∃VA,VA=V9.setCell ⟨g,8,none⟩ (.bool true):=⟨_,rfl⟩
    have HBA:=Hh (show Below B wo VA from HB9.out.trans (by rw[hVA];exact bQ (HG9.out.inn .g g rfl) _));rw[<-hVA]at hgA hbyA;have HGA:=Hh (show aA VA B g i { G with rs:=G.rs.set i R0,hd:=G.hd.set i R0.head,nt:=G.nt.set i [] } M9 by
     have e:({ G with rs:=G.rs.set i R0,hd:=G.hd.set i R0.head,nt:=G.nt.set i [],right:=true }:ac)={ G with rs:=G.rs.set i R0,hd:=G.hd.set i R0.head,nt:=G.nt.set i [] }:=by rw[<-z.out.r]
     rw[<-e];exact hgA)
    have HBYA:=Hh hbyA;have HVA:=Hh hVA;clear hg9 hby9 hV9 hM9 hgA hbyA hVA hs21 hk2 hmt htl;go_upto_region 7 with fail
    rw[<-HV9.out,<-HVA.out];clear c2 k2 f2 hi2 cr cr9 fr9;obtain⟨sb,so,hsa,hsb,hcell⟩:=HBYA.out.1.hat (by show 0<R.state.length;rw[HST2.out];omega);have hsa:sa=some ⟨sb,so,none⟩:=hsa;subst hsa;have hcell:∀i,i<R.state.length->VA.cell? ⟨sb,so+i,none⟩=some (.int .u8 ((R.state.getD i 0).toNat:Int)):=hcell;obtain⟨x0,hx0⟩:∃x0:Nat,x0=(R.state.getD 0 0).toNat:=⟨_,rfl⟩
    obtain⟨x1,hx1⟩:∃x1:Nat,x1=(R.state.getD 1 0).toNat:=⟨_,rfl⟩
    have kk0:=hcell 0 (by rw[HST2.out];omega);have kk1:=hcell 1 (by rw[HST2.out];omega);rw[<-hx0]at kk0;rw[<-hx1]at kk1;have hb0:x0<256:=by rw[hx0];exact UInt8.toNat_lt _
    have hb1:x1<256:=by rw[hx1];exact UInt8.toNat_lt _
    obtain⟨y0,hy0⟩:∃y0:Nat,y0=x0*256:=⟨_,rfl⟩
    obtain⟨y1,hy1⟩:∃y1:Nat,y1=y0+x1:=⟨_,rfl⟩
    have w0:IntKind.i64.wrap (x0:Int)=(x0:Int):=IntWalk.i64_in _ (by omega);have w1:IntKind.i64.wrap (x1:Int)=(x1:Int):=IntWalk.i64_in _ (by omega);have w2':IntKind.i64.wrap ((x0:Int)*256)=(y0:Int):=by rw[IntWalk.i64_in _ (by omega)];omega
    have w3':IntKind.i64.wrap ((y0:Int)+(x1:Int))=(y1:Int):=by rw[IntWalk.i64_in _ (by omega)];omega
    have HAT:=Hh (show lS R.state=(y1:Int) by unfold lS;rw[<-hx0,<-hx1,hy1,hy0]);have hal:i<G.ats.length:=by have d:=z.out.at_;unfold ac.jumpd at d;rw[if_pos HJ.out]at d;have h8:=(List.getElem?_eq_some_iff.1 d).1;simpa using h8
    obtain⟨s3,hs31,c3,k3,f3,cs3,hk3⟩:=HGA.out.rowAt (j:=3) (by omega) rfl (k:=i) (by show i<G.ats.length;exact hal);obtain⟨n3,hn3⟩:∃n3,n3=G.ats.length:=⟨_,rfl⟩
    replace c3:VA.cell? ⟨g,3,none⟩=some (.slice (some ⟨s3,0,none⟩) n3 (M9.rc 3)):=by rw[hn3];exact c3
    have hi3:(i:Int)<(n3:Int):=by omega
    have HS3:=Hh (show z7 g s3 n3 (M9.rc 3) sb so x0 x1 VA from⟨HGA.out.lt (x:= .g) rfl,c3,kk0,kk1⟩);obtain⟨a3,ha3⟩:∃a3,G.ats[i]? =some a3:=⟨_,List.getElem?_eq_getElem hal⟩
    have HA3:=Hh ha3;have HAL:=Hh hal;have HS31:=Hh hs31;have HN3:=Hh hn3;clear hcell kk0 kk1 hx0 hx1 hb0 hb1 hy0 hy1 hal hs31 c3 k3 f3 hk3 ha3 hn3 hsb;refine lT (S:=z7 g s3 n3 (M9.rc 3) sb so x0 x1) ?_;intro VB I;have D:z7 g s3 n3 (M9.rc 3) sb so x0 x1 VB:=⟨Nat.lt_of_lt_of_le HS3.out.s I.size,(I.cell (p:=⟨g,3,none⟩) HS3.out.s).trans HS3.out.c3,(I.cell (p:=⟨sb,so,none⟩) (cI HS3.out.k0)).trans HS3.out.k0,(I.cell (p:=⟨sb,so+1,none⟩) (cI HS3.out.k1)).trans HS3.out.k1⟩
    have HGB:=Hh (HGA.out.below I);have HBB:=Hh (HBA.out.trans (I.mono HGA.out.bs));refine hT 0 56 D ?_;refine hT 4 60 D ?_;refine hT 5 61 D ?_;refine hT 10 66 D ?_;refine hT 1 57 D ?_;refine hT 6 62 D ?_;refine hT 11 67 D ?_;refine hT 2 58 D ?_;refine hT 7 63 D ?_;refine hT 12 68 D ?_;refine hT 3 59 D ?_;refine hV 8 64 (.int .i64 x0) D ?_;refine hV 13 69 (.int .i64 x1) D ?_;refine hV 9 65 (.int .i64 y0) D ?_;refine hV 14 70 (.int .i64 y1) D ?_;refine hT 15 71 D ?_;have HSY:=Hh D;clear D w0 w1 w2' w3';obtain⟨s4,hs41, -,k4,f4,cs4,hk4⟩:=HGB.out.rowAt (j:=3) (by omega) rfl (k:=i) (by show i<G.ats.length;exact HAL.out);have hs43:s4=s3:=by rw[HS31.out]at hs41;injection hs41 with e;injection e with e;exact e.symm
    subst hs43;replace k4:VB.cell? ⟨s4,i,none⟩=some (.int .i64 a3):=by rw[k4];show(G.ats.map iz)[i]? =_;rw[List.getElem?_map,HA3.out];rfl
    refine bp 16 ?_;refine aj 3 (.tmp 71) (.tmp 70) rfl s4 i (.int .i64 y1) _ rfl rfl rfl infoInt1 k4 f4 ?_;have hgC:=HGB.out.setAt (i:=i) HAL.out (b:=s4) (cap:=M9.rc 3) (by show Value.slice (M9.ra 3) G.ats.length (M9.rc 3)=_;rw[hs41]) (y1:Int);have hiz:iz (y1:Int)= .int .i64 y1:=rfl;rw[hiz]at hgC;have hsg4:s4≠g:=fun e=>by have d:=HGB.out.dis .g (.row 3) s4 e ⟨by omega,by rw[hs41];rfl⟩;cases d
    have hsb4:s4≠sb:=fun e=>by have d:=HBYA.out.2 (by show 0<R.state.length;rw[HST2.out];omega);obtain⟨ad,cs,fr,e1,e2⟩:=d;have e1:some (⟨sb,so,none⟩:Addr)=some ad:=e1;injection e1 with e1;rw[<-e1]at e2;have e3:=(I.block sb (Array.getElem?_eq_some_iff.1 e2).1).trans e2;rw[<-e]at e3;exact absurd (aB hk4 e3) (by decide)
    obtain⟨VC,hVC⟩:∃VC,VC=VB.setCell ⟨s4,i,none⟩ (.int .i64 y1):=⟨_,rfl⟩
    have hfar:∀k,k≠s4->VC.heap[k]? =VB.heap[k]? :=fun k hk=>by rw[hVC];exact Below.heap_setCell _ _ _ k hk
    have hSC:z7 g s4 n3 (M9.rc 3) sb so x0 x1 VC:=⟨by rw[hVC];have d:=HSY.out.s;simpa using d,(cZ (hfar g (Ne.symm hsg4))).trans HSY.out.c3,(cZ (hfar sb (Ne.symm hsb4))).trans HSY.out.k0,(cZ (hfar sb (Ne.symm hsb4))).trans HSY.out.k1⟩
    have HBC:=Hh (show Below B wo VC from HBB.out.trans (by rw[hVC];exact bQ (HGB.out.inn (.row 3) s4 ⟨by omega,by rw[hs41];rfl⟩) _));rw[<-hVC]at hgC ⊢;have HGC:=Hh (show aA VC B g i { G.jumpd i R with rs:=(G.jumpd i R).rs.set i R0 } M9 by
     have e:({ G.jumpd i R with rs:=(G.jumpd i R).rs.set i R0 }:ac)={ G with rs:=G.rs.set i R0,hd:=G.hd.set i R0.head,nt:=G.nt.set i [],ats:=G.ats.set i (y1:Int) }:=by unfold ac.jumpd;rw[if_pos HJ.out,HAT.out,HR0.out];simp only[List.set_set];rw[kq];rfl
     rw[e];exact hgC)
    refine⟨hSC,dc ?_⟩;clear hgC hSC hfar hVC hsg4 hsb4 hs41 hk4 k4 f4 I;go_wp2_with fail;go_meet;exact⟨M9,HGC.out,HQ9.out,HBC.out⟩
   | false=>
    have hj:¬R.jumped=true:=by rw[<-HJB.out];simp
    have HGC:=Hh (show aA w2 B g i { G.jumpd i R with rs:=(G.jumpd i R).rs.set i R0 } M0 by
     have e:G.jumpd i R=G:=by unfold ac.jumpd;rw[if_neg hj]
     rw[e];exact HG0.out)
    clear hj;go_wp2_with fail;go_meet;exact⟨M0,HGC.out,HQ0.out,HB0.out⟩
 case rest=>
  obtain⟨MJ,hgJ,hqJ,hbJ⟩:=hcut;obtain⟨GJ,hGJ⟩:∃GJ:ac,GJ={ G.jumpd i R with rs:=(G.jumpd i R).rs.set i R0 }:=⟨_,rfl⟩
  rw[<-hGJ]at hgJ;have hR0e:R0={ R with jumped:=false,news:=if R.jumped=true then[] else R.news }:=by rw[HR0.out,kq]
  have hJe:GJ.rs[i]? =some R0/\GJ.nt.length=G.nt.length/\(GJ.nt.getD i []).length<=10000000000/\GJ.ats[i]? =some R.applied/\GJ.seen=G.seen/\GJ.wh=G.wh/\GJ.bag=G.bag/\GJ.led=G.led/\GJ.right=true/\GJ.rs.length=n:=by
   have hat:=z.out.at_;have hnl:=z.out.nl;rw[hGJ];unfold ac.jumpd at hat ⊢;by_cases hj:R.jumped=true
   ·rw[if_pos hj]at hat ⊢;refine⟨by show((G.rs.set i _).set i R0)[i]? =_;rw[aZ (by rw[List.length_set];exact hil),if_pos rfl],by show(G.nt.set i []).length=_;rw[List.length_set],?_,hat,rfl,rfl,rfl,rfl,z.out.r,by show((G.rs.set i _).set i R0).length=n;rw[List.length_set,List.length_set];exact z.out.rl⟩;show((G.nt.set i []).getD i []).length<=_;rw[List.getD_eq_getElem?_getD,aZ z.out.il,if_pos rfl]
    simp
   ·rw[if_neg hj]at hat ⊢;exact⟨by show(G.rs.set i R0)[i]? =_;rw[aZ hil,if_pos rfl],rfl,hnl,hat,rfl,rfl,rfl,rfl,z.out.r,by show(G.rs.set i R0).length=n;rw[List.length_set];exact z.out.rl⟩
  obtain⟨j1,j2,j3,j4,j5,j6,j7,j8,j9,j10⟩:=hJe;have HRFJ:=Hh (hgJ.rf i R0 (p,X) j1 hqJ);have HRJ:=Hh j1;have HQJ:=Hh hqJ;have HBJ:=Hh hbJ;have HNL:=Hh j3;have HNW0:=Hh (show R0.news.length<=10000000 by
   rw[hR0e];show(if R.jumped=true then[] else R.news).length<=_;split
   ·simp
   ·exact z.out.nw)
  have HJF:=Hh (show GJ.ats[i]? =some R.applied/\GJ.seen=G.seen/\GJ.wh=G.wh/\GJ.bag=G.bag/\GJ.led=G.led/\GJ.right=true/\GJ.rs.length=n from⟨j4,j5,j6,j7,j8,j9,j10⟩);have htl:MJ.ts.length=GJ.nt.length:=by rw[<-hgJ.ct.tq];simp
  have hti2:i<MJ.ts.length:=by rw[htl,j2];exact z.out.il
  obtain⟨Z,hti⟩:∃Z,MJ.ts[i]? =some Z:=⟨_,List.getElem?_eq_getElem hti2⟩
  obtain⟨b2,hb21,hb22,_,hb24⟩:=hgJ.at_ (i:=2) (by omega) (j:=i) (by show i<MJ.ts.length*1;omega);have hi2:(i:Int)<(MJ.ts.length:Int):=by omega
  have hin:i<MJ.ps.length:=(List.getElem?_eq_some_iff.1 hqJ).1;have HTI:=Hh hti;have HB21:=Hh hb21;have k2:wc.cell? ⟨b2,i,none⟩=some Z.cell:=by rw[hb22];show(MJ.ts.map d9.cell)[i]? =_;rw[List.getElem?_map,hti];rfl
  have K2:=Hh k2;have HGJ:=Hh hgJ;have HGJQ:=Hh hGJ;have HR0E:=Hh hR0e;obtain⟨iB,jB,jB0,jB1,jB2⟩:=info_parts gN;obtain⟨iT,jT,jT0,jT1,jT2⟩:=info_parts eJ;obtain⟨iI,jI,jI0,jI1,jI2⟩:=info_parts tD;obtain⟨iM,jM,jM0,jM1,jM2⟩:=info_parts kr;clear hgJ hGJ hR0e j1 j2 j3 j4 j5 j6 j7 j8 j9 j10 hqJ hbJ htl hti hb21 hb22 k2;go_wp2_with fail;refine fx (S:=yt g b2 MJ.ts.length (MJ.rc 2)) ?_;have I:Below wc.heap.size wc wc.drew:=(Below.refl _ _).drew;have H9:=Hh (HGJ.out.below I);have l:yt g b2 MJ.ts.length (MJ.rc 2) wc.drew:=⟨H9.out.lt (x:= .g) rfl,by rw[<-HB21.out];exact H9.out.cl (i:=2) (by omega)⟩
  refine hT 0 72 l ?_;refine hT 4 76 l ?_;refine hT 6 78 l ?_;refine hT 10 82 l ?_;refine hT 14 86 l ?_;refine hT 1 73 l ?_;refine hT 7 79 l ?_;refine hT 2 74 l ?_;refine hT 8 80 l ?_;refine hT 3 75 l ?_;refine hT 9 81 l ?_;refine hT 11 83 l ?_;have HS0:=Hh l;clear l;obtain⟨U,hU⟩:∃U,U=(wc.alloc (.cells #[] 27)).drew:=⟨_,rfl⟩
  have O:Below wc.heap.size wc U:=by rw[hU];exact((Below.refl _ _).alloc (Nat.le_refl _) _).drew
  have hsU:U.heap.size=wc.heap.size+1:=by rw[hU];simp
  have HBU:=Hh O;have HLU:=Hh (HGJ.out.below O);have hmade:U.ownsRow wc.heap.size 27 1 (.slice (some ⟨wc.heap.size,0,none⟩) 0 0) 0 []:=by have d:=da (ek wc wc.heap.size 1 (Nat.le_refl _) 27) (show Below (wc.alloc (.cells #[] 27)).heap.size (wc.alloc (.cells #[] 27)) U by rw[hU];exact(Below.refl _ _).drew);exact d
  have HMADE:=Hh hmade;have hSU:yt g b2 MJ.ts.length (MJ.rc 2) U:=⟨HLU.out.lt (x:= .g) rfl,by rw[<-HB21.out];exact HLU.out.cl (i:=2) (by omega)⟩
  have kU:U.cell? ⟨b2,i,none⟩=some (.slice Z.a Z.ns.length Z.c):=(O.cell (p:=⟨b2,i,none⟩) (by exact hb24)).trans K2.out;have KU:=Hh kU;have HSU:=Hh hSU;have HU:=Hh hU;clear hU O hmade hSU kU;apply tR (fun U'=>U'=U);intro W;refine nU 5 12 ?_ ?_
  ·go_simp;rw[<-HU.out];refine⟨HSU.out,?_⟩;refine bp 12 ?_;have k9:=KU.out;go_simp;clear k9;refine⟨HSU.out,?_⟩;exact W U rfl
  ·have k9:wc.cell? ⟨b2,i,none⟩=some (.slice Z.a Z.ns.length Z.c):=K2.out;go_simp;clear k9;refine⟨HS0.out,?_⟩;refine bp 5 ?_;go_simp;rw[<-HU.out];refine⟨HSU.out,?_⟩;exact W U rfl
  rintro U' rfl;have HTN:=Hh (show Z.ns.map aV.b=GJ.nt.getD i [] by
   have d:(MJ.ts.map d9.p)[i]? =some (Z.ns.map aV.b):=by rw[List.getElem?_map,HTI.out];rfl
   rw[HGJ.out.ct.tq]at d;rw[List.getD_eq_getElem?_getD,d];rfl)
  have hn1:Z.ns.length<=10000000000:=by have d:=HNL.out;rw[<-HTN.out]at d;simpa using d
  have hn2:X.ns.length<=10000000:=by have d:=HNW0.out;rw[<-HRFJ.out.nq]at d;simpa using d
  have hSL:SlAt U' U'.heap.size 1 Z.a Z.ns.length Z.c (Z.ns.map aV.cell):=by obtain⟨a9,c9,e9,d⟩:=SlAt.ofOwns (HLU.out.ct.tr Z (List.mem_of_getElem? HTI.out));injection e9 with e1 _ e3;subst e1 e3;exact d
  refine bp 13 ?_;refine aS U' (.tmp 77) (.tmp 84) 29 rfl wc.heap.size 27 iB (.slice none 0 0) 1 24 Tryz.underlying29 jB jB0 jB1 jB2 rfl (by decide) (.slice (some ⟨wc.heap.size,0,none⟩) 0 0) 0 [] rfl HMADE.out U'.heap.size Z.a Z.ns.length Z.c (Z.ns.map aV.cell) rfl hSL (fun u hu=>by rw[List.mem_map]at hu;obtain⟨y, -,rfl⟩:=hu;rfl) (by unfold maxLen;omega) (by omega) (by omega) ?_;intro a13 c13 W13 o13 g13 hat13;have hs13:=g13.size;have hb13:Below wc.heap.size wc W13:=by refine HBU.out.trans ⟨g13.os,g13.tape,g13.output,g13.size,fun k hk=>g13.block k (by omega) (fun e=> ?_)⟩;have e:some wc.heap.size=some k:=e.symm;injection e with e;omega
  have H13:=Hh (HGJ.out.below hb13);have HRF13:=Hh (HRFJ.out.below hb13);have HB13:=Hh hb13;simp only[Nat.zero_add,List.nil_append]at o13;have HO13:=Hh o13;have hS13:yt g b2 MJ.ts.length (MJ.rc 2) W13:=⟨H13.out.lt (x:= .g) rfl,by rw[<-HB21.out];exact H13.out.cl (i:=2) (by omega)⟩
  clear o13 g13 hat13 hSL hb13;refine⟨hS13,?_⟩;clear hS13;refine bp 15 ?_;go_simp;refine(vb HRF13.out).mono ?_;rintro e W14 ⟨rfl,hw14⟩;obtain⟨hr14,ht14⟩:=HRF13.out.clearNews;rw[<-hw14]at hr14 ht14;have hs14:=ht14.size;have hpl:=HRFJ.out.lt;have hown14:W14.ownsRow wc.heap.size 27 1 (.slice a13 Z.ns.length c13) Z.ns.length (Z.ns.map aV.cell):=by
   refine aE HO13.out fun k hk=> ?_
   rw[hw14];refine Below.heap_setCell _ _ _ k (fun e=> ?_);have d:=(own_lt HO13.out hk).1;have e:k=p:=e;omega
  have hnw14:SlAt W14 W14.heap.size 1 X.na X.ns.length X.nc (X.ns.map aV.cell):=by
   have d:W14.ownsRow 0 27 1 (.slice X.na X.ns.length X.nc) X.ns.length (X.ns.map aV.cell):=by
    rw[hw14];exact aE HRF13.out.nw fun k hk=>Below.heap_setCell _ _ _ k (fun e9=>by rw[al,e9]at hk;exact HRF13.out.apart.2.2.1 hk)
   obtain⟨a9,c9,e9,d⟩:=SlAt.ofOwns d;injection e9 with e1 _ e3;subst e1 e3;exact d
  have hS14:yt g b2 MJ.ts.length (MJ.rc 2) W14:=by have hg14:=H13.out.putRaft HRJ.out HQJ.out hr14 ht14;refine⟨hg14.lt (x:= .g) rfl,?_⟩;have d:=hg14.cl (i:=2) (by omega);rw[<-HB21.out];exact d
  have HR14:=Hh hr14;have HT14:=Hh ht14;have HO14:=Hh hown14;have HNW14:=Hh hnw14;clear hr14 ht14 hown14 hnw14 hw14;refine⟨hS14,?_⟩;clear hS14;refine bp 16 ?_;refine aS W14 (.tmp 85) (.tmp 87) 29 rfl wc.heap.size 27 iB (.slice none 0 0) 1 24 Tryz.underlying29 jB jB0 jB1 jB2 rfl (by decide) (.slice a13 Z.ns.length c13) Z.ns.length (Z.ns.map aV.cell) rfl HO14.out W14.heap.size X.na X.ns.length X.nc (X.ns.map aV.cell) rfl HNW14.out (fun u hu=>by rw[List.mem_map]at hu;obtain⟨y, -,rfl⟩:=hu;rfl) (by unfold maxLen;omega) (by omega) (by omega) ?_;intro a16 c16 W16 o16 g16 hat16;have hs16:=g16.size;have hlo:∀k,(Value.slice a13 Z.ns.length c13).ownBlock=some k->wc.heap.size<=k:=fun k hk=>(own_lt HO14.out hk).1
  have hsub:∀k,({ X with na:=none,nc:=0,ns:= [] }:ay).own p k->X.own p k:=fun k hk=>by
   rcases hk with e | e | e | e | e
   ·exact .inl e
   ·exact .inr (.inl e)
   ·exact .inr (.inr (.inl e))
   ·cases e
   ·exact .inr (.inr (.inr (.inr e)))
  have hr16:=HR14.out.grown2 g16 (fun k hk ho=>by
   have h8:=hlo k hk;have d:=HRFJ.out.notNew h8;exact d (hsub k ho)) (fun m hm k hk e=>by
   rw[al]at hk;obtain⟨cur,d⟩:=au HO14.out hk;obtain⟨cur2,h8⟩:=au (HR14.out.po.m m hm).own.own e;exact absurd (aB d h8) (by decide)) (fun k cs fr hk hc=>by rw[al]at hk;obtain⟨cur,d⟩:=au HO14.out hk;exact absurd (aB d hc) (by decide))
  have ht16:=ah.besides HB13.out HT14.out g16 hlo hsub;have hg16:=HGJ.out.putRaft HRJ.out HQJ.out hr16 ht16;have hfree:∀k,a16.map (·.block)=some k->B<=k/\∀y,¬({ MJ with ps:=MJ.ps.set i (p,{ X with na:=none,nc:=0,ns:= [] }) }:bG).own g y k:=fun k hk=>by
   have hk':wc.heap.size<=k:=(own_lt o16 (by rw[al];exact hk)).1;have d:=HGJ.out.free hk';refine⟨d.1,fun y hy=> ?_⟩;cases y with
   | g=>exact d.2 .g hy
   | row j=>exact d.2 (.row j) hy
   | nts j=>exact d.2 (.nts j) hy
   | raft j=>
    obtain⟨q,h1,h2⟩:∃q:Nat×ay,(MJ.ps.set i (p,{ X with na:=none,nc:=0,ns:= [] }))[j]? =some q/\q.2.own q.1 k:=hy;rw[aZ hin]at h1;by_cases e:j=i
    ·rw[if_pos e]at h1;injection h1 with h1;subst h1
     exact d.2 (.raft i) ⟨_,HQJ.out,hsub k h2⟩
    ·rw[if_neg e]at h1;exact d.2 (.raft j) ⟨q,h1,h2⟩
  have hS16:yt g b2 MJ.ts.length (MJ.rc 2) W16:=by refine⟨hg16.lt (x:= .g) rfl,?_⟩;have d:=hg16.cl (i:=2) (by omega);rw[<-HB21.out];exact d
  refine⟨hS16,?_⟩;refine hT 17 89 hS16 ?_;refine bp 18 ?_;obtain⟨q2,hq21,hq22,hq23, -⟩:=hg16.at_ (i:=2) (by omega) (j:=i) (by show i<MJ.ts.length*1;omega);have eq2:q2=b2:=by have d:MJ.ra 2=some ⟨q2,0,none⟩:=hq21;rw[HB21.out]at d;injection d with d;injection d with d;exact d.symm
  subst eq2;have p2:W16.cell? ⟨q2,i,none⟩=some Z.cell:=by rw[hq22];show(MJ.ts.map d9.cell)[i]? =_;rw[List.getElem?_map,HTI.out];rfl
  refine aj 29 (.tmp 89) (.tmp 88) rfl q2 i (.slice a16 (Z.ns.length+X.ns.length) c16) _ rfl rfl rfl gM p2 hq23 ?_;have hel:(Z.ns++X.ns).length=Z.ns.length+X.ns.length:=by simp
  have hnt:=hg16.setNotes (i:=i) (b:=q2) (cap:=MJ.rc 2) (by show i<MJ.ts.length;omega) (by show Value.slice (MJ.ra 2) MJ.ts.length (MJ.rc 2)=_;rw[HB21.out]) ⟨a16,c16,Z.ns++X.ns⟩ (by
    show W16.ownsRow 0 27 1 (.slice a16 (Z.ns++X.ns).length c16) (Z.ns++X.ns).length ((Z.ns++X.ns).map aV.cell);rw[hel,List.map_append];exact kL o16) (fun m hm=>by
    rcases List.mem_append.1 hm with d | d
    ·exact hg16.ct.tb Z (List.mem_of_getElem? HTI.out) m d
    ·exact HRFJ.out.keeps ht16 (HRFJ.out.nb m d)) hfree
  have hcell:d9.cell ⟨a16,c16,Z.ns++X.ns⟩= .slice a16 (Z.ns.length+X.ns.length) c16:=by show Value.slice a16 (Z.ns++X.ns).length c16=_;rw[hel]
  have hpn:d9.p ⟨a16,c16,Z.ns++X.ns⟩=GJ.nt.getD i []++R0.news:=by show(Z.ns++X.ns).map aV.b=_;rw[List.map_append,HTN.out,HRFJ.out.nq]
  rw[hcell,hpn]at hnt;have hqB:B<=q2:=HGJ.out.inn (.row 2) q2 ⟨by omega,by rw[HB21.out];rfl⟩;obtain⟨W17,hW17⟩:∃W17,W17=W16.setCell ⟨q2,i,none⟩ (.slice a16 (Z.ns.length+X.ns.length) c16):=⟨_,rfl⟩
  have hb17:Below B wc W17:=(ht16.below (fun k hk=>HGJ.out.inn (.raft i) k ⟨_,HQJ.out,hk⟩) HGJ.out.bs).trans (by rw[hW17];exact bQ hqB _);rw[<-hW17]at hnt ⊢;have hS17:yt g q2 MJ.ts.length (MJ.rc 2) W17:=by refine⟨hnt.lt (x:= .g) rfl,?_⟩;have d:=hnt.cl (i:=2) (by omega);rw[<-HB21.out];exact d.trans (by show some (Value.slice (MJ.ra 2) (MJ.ts.set i ⟨a16,c16,Z.ns++X.ns⟩).length (MJ.rc 2))=_;simp)
  have HG17:=Hh hnt;have HB17:=Hh hb17;refine⟨hS17,dc ?_⟩;clear hS16 hS17 p2 hq21 hq22 hq23 hnt hb17 hW17 hcell hpn hel hfree hg16 ht16 hr16 hsub hlo o16 g16 hat16 I;obtain⟨G1,hG1⟩:∃G1:ac,G1=GJ.noted i R0:=⟨_,rfl⟩
  obtain⟨N1,hN1⟩:∃N1:ay,N1={ X with na:=none,nc:=0,ns:= [] }:=⟨_,rfl⟩
  obtain⟨M1,hM1⟩:∃M1:bG,M1={ MJ with ps:=MJ.ps.set i (p,N1),ts:=MJ.ts.set i ⟨a16,c16,Z.ns++X.ns⟩ }:=⟨_,rfl⟩
  have HG1:=Hh (show aA W17 B g i G1 M1 by rw[hG1,hM1,hN1];exact HG17.out);have hlr:i<GJ.rs.length:=(List.getElem?_eq_some_iff.1 HRJ.out).1;have HR1:=Hh (show G1.rs[i]? =some { R0 with news:= [] } by rw[hG1];show(GJ.rs.set i _)[i]? =_;rw[aZ hlr,if_pos rfl]);have HQ1:=Hh (show M1.ps[i]? =some (p,N1) by rw[hM1];show(MJ.ps.set i _)[i]? =_;rw[aZ hin,if_pos rfl]);have HRF1:=Hh (HG1.out.rf i _ (p,N1) HR1.out HQ1.out);have HGQ1:=Hh hG1;have HMQ1:=Hh hM1;have HNQ1:=Hh hN1;clear hG1 hN1 hM1 HG17 HR14 HT14 HO14 HNW14 H13 HRF13 HB13 HO13 HLU HMADE KU HSU HU HS0 H9 hs16 hs14 hs13;go_wp2_with fail;refine(x3 HRF1.out).mono ?_;rintro e W18 ⟨rfl,hw18⟩;obtain⟨hr18,ht18⟩:=HRF1.out.clearOut;rw[<-hw18]at hr18 ht18;have hg18:=HG1.out.putRaft HR1.out HQ1.out hr18 ht18;have HB18:=Hh (show Below B wo W18 from HBJ.out.trans (HB17.out.trans (by rw[hw18];exact bQ (HG1.out.inn (.raft i) p ⟨_,HQ1.out, .inl rfl⟩) _)));have hO17:eD W17 N1.oa N1.on N1.oc N1.ps:=⟨by rw[<-HRF1.out.po.c];exact HRF1.out.ou,HRF1.out.po.m,by
   have d:=HRF1.out.oq;have h8:=congrArg List.length HRF1.out.po.q;rw[List.length_map]at h8;omega⟩
  have HO18:=Hh (show eD W18 N1.oa N1.on N1.oc N1.ps by rw[hw18];exact hO17.store HRF1.out.row fC.2.2.2.2.2.2.1 fC.2.2.2.2.2.2.2.1 fC.2.2.2.2.2.2.2.2)
  obtain⟨P,hR1⟩:∃P:aa,P={ R0 with news:= [],out:= [] }:=⟨_,rfl⟩
  obtain⟨N2,hN2⟩:∃N2:ay,N2={ N1 with oa:=none,on:=0,oc:=0,ocs:= [],ps:= [] }:=⟨_,rfl⟩
  obtain⟨M2,hM2⟩:∃M2:bG,M2={ M1 with ps:=M1.ps.set i (p,N2) }:=⟨_,rfl⟩
  obtain⟨G2,hG2⟩:∃G2:ac,G2={ G1 with rs:=G1.rs.set i P }:=⟨_,rfl⟩
  have HG2:=Hh (show aA W18 B g i G2 M2 by rw[hG2,hM2,hN2,hR1];exact hg18);have HQ2:=Hh (show M2.ps[i]? =some (p,N2) by rw[hM2];show(M1.ps.set i _)[i]? =_;rw[aZ (List.getElem?_eq_some_iff.1 HQ1.out).1,if_pos rfl]);have HNE:=Hh (show N2.ps= [] by rw[hN2]);have HOQ:=Hh (show N1.ps.map cz.p=R.out/\N1.on=R.out.length by
   have d:=HRF1.out.po.q;have h8:=HRF1.out.oq;have e:({ R0 with news:= [] }:aa).out=R.out:=by rw[HR0E.out]
   rw[e]at d h8;exact⟨d,h8⟩)
  have J:=Hh (show G2.rs[i]? =some P/\G2.bag=G.bag/\G2.right=true/\G2.rs.length=n by
   rw[hG2,HGQ1.out];refine⟨?_,HJF.out.2.2.2.1,HJF.out.2.2.2.2.2.1,?_⟩
   ·show((GJ.rs.set i _).set i P)[i]? =_;have h8:=(List.getElem?_eq_some_iff.1 HRJ.out).1;rw[aZ (by rw[List.length_set];exact h8),if_pos rfl]
   ·show((GJ.rs.set i _).set i P).length=n;rw[List.length_set,List.length_set];exact HJF.out.2.2.2.2.2.2)
  have HR1E:=Hh hR1;have HG2Q:=Hh hG2;obtain⟨on,hon⟩:∃on,on=N1.on:=⟨_,rfl⟩
  rw[<-hon]at HO18 HOQ ⊢;have HPS:=Hh (show M2.ps.length=n by rw[HG2.out.rl];exact J.out.2.2.2);have hol:=z.out.ol;have hon1:on<=1000:=by have:=HOQ.out.2;omega
  obtain⟨oa,hoa⟩:∃oa,oa=N1.oa:=⟨_,rfl⟩
  obtain⟨oc,hoc⟩:∃oc,oc=N1.oc:=⟨_,rfl⟩
  obtain⟨ps,hps⟩:∃ps,ps=N1.ps:=⟨_,rfl⟩
  rw[<-hoa,<-hoc,<-hps]at HO18;rw[<-hps]at HOQ;rw[<-hoa,<-hoc];clear hr18 ht18 hg18 hw18 hM2 hN2 hR1 hG2 hO17 hon hoa hoc hps hol;go_wp2_with fail;go_loopw [8] (fun iv wr=>∃(k:Nat) (Mk:bG),iv= .int .i64 k/\k<=on/\aA wr B g i { G2 with bag:=bu i G.bag (R.out.take k) } Mk/\Mk.ps[i]? =some (p,N2)/\eD wr oa on oc ps/\Below B wo wr) (fun iv _=>on-(intOf iv).toNat)
  case atStart=>exact⟨0,M2,rfl,by omega,by
   have e:({ G2 with bag:=bu i G.bag (R.out.take 0) }:ac)=G2:=by have d:=J.out.2.1;rw[List.take_zero];show({ G2 with bag:=G.bag }:ac)=G2;rw[<-d]
   rw[e];exact HG2.out,HQ2.out,HO18.out,HB18.out⟩
  case round=>
   obtain⟨k,Mk,rfl,hk,hgk,hqk,hok,hbk⟩:=hrel;obtain⟨Gk,hGk⟩:∃Gk:ac,Gk={ G2 with bag:=bu i G.bag (R.out.take k) }:=⟨_,rfl⟩
   rw[<-hGk]at hgk;have HGK:=Hh hgk;have HQK:=Hh hqk;have HOK:=Hh hok;have HBK:=Hh hbk;have HGKQ:=Hh hGk;clear hgk hqk hok hbk hGk;by_cases hkl:k<on
   ·as_aux_lemma=>
    have t1:decide ((k:Int)<(on:Int))=true:=decide_eq_true (by omega);have t1n:decide (k<on)=true:=decide_eq_true hkl;obtain⟨m,hm⟩:∃m,ps[k]? =some m:=⟨_,List.getElem?_eq_getElem (by rw[HOK.out.ln];exact hkl)⟩
    obtain⟨ob,hob,hobl,hcs⟩:=HOK.out.cells hm;subst hob;have hmem:=List.mem_of_getElem? hm;have hat:=HOK.out.ms m hmem;have hy:R.out[k]? =some m.p:=by rw[<-HOQ.out.1,List.getElem?_map,hm];rfl
    have hrt:=z.out.out m.p (List.mem_of_getElem? hy);have hk0:(0:Int)<=(k:Int):=by omega
    have hk1:(k:Int)<(on:Int):=by omega
    have q0:wr.cell? ⟨ob,k*9,none⟩=some (.int .i64 m.to):=hcs 0 (by omega);have q1:wr.cell? ⟨ob,k*9+1,none⟩=some (.int .i64 m.x.k):=hcs 1 (by omega);have q2:wr.cell? ⟨ob,k*9+1+1,none⟩=some (.int .i64 m.x.t):=hcs 2 (by omega);have q3:wr.cell? ⟨ob,k*9+1+2,none⟩=some (.int .i64 m.x.a):=hcs 3 (by omega);have q4:wr.cell? ⟨ob,k*9+1+3,none⟩=some (.int .i64 m.x.u):=hcs 4 (by omega);have q5:wr.cell? ⟨ob,k*9+1+4,none⟩=some (.int .i64 m.x.o):=hcs 5 (by omega);have q6:wr.cell? ⟨ob,k*9+1+5,none⟩=some (.bool m.x.y):=hcs 6 (by omega);have q7:wr.cell? ⟨ob,k*9+1+6,none⟩=some (.slice m.ia m.ms.length m.ic):=hcs 7 (by omega);have q8:wr.cell? ⟨ob,k*9+1+7,none⟩=some (.slice m.ba m.x.b.length m.bc):=hcs 8 (by omega);have HAT:=Hh hat;have HRT:=Hh hrt;have HY:=Hh hy;have HM9:=Hh hm;have HCS:=Hh hcs;clear hm hcs hmem hat hy hrt;go_wp2_with fail;refine(ut m.x m.ia m.ic m.ms m.ba m.bc (by have d:=congrArg List.length HAT.out.eq;rw[List.length_map]at d;have h8:=(aH HRT.out.1).2.2.2.2.2.1;have h8:m.x.its.length<=16:=h8;omega) _ ⟨HAT.out.own.at,HAT.out.eq,HAT.out.b.1⟩).mono ?_
    rintro e w3 ⟨hput,hb3⟩;rcases hput with⟨hf, -⟩ | ⟨-,a3,c3,rfl,hby3⟩
    ·have d:=HRT.out.1;have d:aO m.x=true:=d;rw[d]at hf;cases hf
    have HBY3:=Hh hby3;have HB3:=Hh (HBK.out.trans (hb3.mono HGK.out.bs));have HG3:=Hh (HGK.out.below hb3);have HO3:=Hh (HOK.out.below hb3);have q03:w3.cell? ⟨ob,k*9,none⟩=some (.int .i64 m.to):=(hb3.cell (p:=⟨ob,k*9,none⟩) hobl).trans q0;have hrr:Gk.right=true:=by rw[HGKQ.out];exact J.out.2.2.1
    have hpl:Mk.ps.length=n:=by rw[HGK.out.rl,HGKQ.out];exact J.out.2.2.2
    obtain⟨b00,h001, -, -⟩:=HGK.out.ptr HQK.out;have HS3:=Hh (show yu g b00 n (Mk.rc 0) ob (k*9) m.to w3 from⟨HG3.out.lt (x:= .g) rfl,by rw[<-hrr];exact HG3.out.cr,q03,by rw[<-h001,<-hpl];exact HG3.out.cl (i:=0) (by omega)⟩);obtain⟨ht0,ht1,ht2⟩:=HRT.out.2;have ht0:0<=m.to:=ht0;have ht1:m.to<(n:Int):=ht1;have ht2:m.to≠(i:Int):=ht2;have d1:decide (0<=m.to)=true:=decide_eq_true ht0;have d2:decide (m.to<(n:Int))=true:=decide_eq_true ht1;have d3:(m.to !=(i:Int))=true:=by simpa using ht2
    have HRR:=Hh hrr;have HPL:=Hh hpl;clear hby3 hb3 q0 q1 q2 q3 q4 q5 q6 q7 q8 q03 hrr hpl h001 ht0 ht1 ht2;go_wp2_with fail;refine lT (S:=yu g b00 n (Mk.rc 0) ob (k*9) m.to) ?_;intro w4 I;have D:yu g b00 n (Mk.rc 0) ob (k*9) m.to w4:=HS3.out.below I;have HG4:=Hh (HG3.out.below I);have HO4:=Hh (HO3.out.below I);have HBY4:=Hh (OwnBs.below HBY3.out I);have HB4:=Hh (HB3.out.trans (I.mono HG3.out.bs));refine hT 0 107 D ?_;refine hT 1 108 D ?_;refine hT 2 109 D ?_;refine hT 3 110 D ?_;refine hT 4 111 D ?_;refine hT 5 112 D ?_;refine hT 6 113 D ?_;refine hV 7 114 (.bool true) D ?_;refine hT 8 115 D ?_;refine hT 9 116 D ?_;refine hT 10 117 D ?_;refine hT 11 118 D ?_;refine hT 12 119 D ?_;refine hT 13 120 D ?_;refine hV 14 121 (.bool true) D ?_;refine hV 15 122 (.bool true) D ?_;refine hT 16 123 D ?_;refine hT 17 124 D ?_;refine hT 18 125 D ?_;refine hT 22 129 D ?_;refine hT 19 126 D ?_;refine hT 23 130 D ?_;refine hT 20 127 D ?_;refine hT 24 131 D ?_;refine hT 21 128 D ?_;refine hT 25 132 D ?_;refine hT 26 133 D ?_;refine hV 27 134 (.bool true) D ?_;refine hV 28 135 (.bool true) D ?_;refine hT 29 136 D ?_;refine hT 30 137 D ?_;refine hT 31 138 D ?_;refine hT 35 142 D ?_;refine hT 32 139 D ?_;refine hT 33 140 D ?_;refine hT 34 141 D ?_;refine hV 36 143 (.bool true) D ?_;refine hV 37 144 (.bool true) D ?_;refine hT 38 145 D ?_;refine hT 39 146 D ?_;have HSX:=Hh D;clear D d1 d2 d3;refine bp 40 ?_;refine aj 4 (.tmp 146) (.tmp 144) rfl g 8 (.bool true) _ rfl rfl rfl iL HSX.out.r (HG4.out.f 8) ?_;have hg5:=HG4.out.setRight true;have ho5:=HO4.out.store (b:=g) (j:=8) (v:= .bool true) HG4.out.row fC.1 fC.2.1 fC.2.2.1;have hby5:=cS.store HBY4.out (b:=g) (j:=8) (v:= .bool true) HG4.out.row fC.2.2.1;have hobg:ob≠g:=fun e=>by obtain⟨cur,hc⟩:=au HO4.out.ro (k:=ob) rfl;rw[e]at hc;exact fC.1 (aB HG4.out.row hc)
    obtain⟨V5,hV5⟩:∃V5,V5=w4.setCell ⟨g,8,none⟩ (.bool true):=⟨_,rfl⟩
    have hfar:∀x,x≠g->V5.heap[x]? =w4.heap[x]? :=fun x hx=>by rw[hV5];exact Below.heap_setCell _ _ _ x hx
    have HB5:=Hh (show Below B wo V5 from HB4.out.trans (by rw[hV5];exact bQ (HG4.out.inn .g g rfl) _));rw[<-hV5]at hg5 ho5 hby5 ⊢;have HG5:=Hh (show aA V5 B g i Gk Mk by
     have e:({ Gk with right:=true }:ac)=Gk:=by rw[<-HRR.out]
     rw[<-e];exact hg5)
    have HO5:=Hh ho5;have HBY5:=Hh hby5;have q05:V5.cell? ⟨ob,k*9,none⟩=some (.int .i64 m.to):=(cZ (hfar ob hobg)).trans HSX.out.o;have hS5:yu g b00 n (Mk.rc 0) ob (k*9) m.to V5:=⟨HG5.out.lt (x:= .g) rfl,by rw[<-HRR.out];exact HG5.out.cr,q05,by
     have d:=HG5.out.cl (i:=0) (by omega);have h8:=HG4.out.cl (i:=0) (by omega);exact d.trans (h8.symm.trans HSX.out.c0)⟩
    refine⟨hS5,dc ?_⟩;clear hg5 ho5 hby5 hfar hV5 hS5 I;obtain⟨L,hL⟩:∃L,L=Mk.ms.length:=⟨_,rfl⟩
    have hLb:L=(bu i G.bag (R.out.take k)).length:=by have d:=congrArg List.length HGK.out.ct.bq;rw[List.length_map,HGKQ.out]at d;rw[hL];exact d
    have c4:V5.cell? ⟨g,4,none⟩=some (.slice (Mk.ra 4) L (Mk.rc 4)):=by rw[hL];exact HG5.out.cl (i:=4) (by omega)
    have cr5:V5.cell? ⟨g,8,none⟩=some (.bool true):=by rw[<-HRR.out];exact HG5.out.cr
    have HLB:=Hh hLb;have HLQ:=Hh hL;have HTK:=Hh (show R.out.take (k+1)=R.out.take k++ [m.p] by rw[List.take_add_one,HY.out];rfl);clear hLb hL;by_cases hroom:L<2000
    ·have d4:decide ((L:Int)<2000)=true:=decide_eq_true (by omega);have d4n:decide (L<2000)=true:=decide_eq_true hroom;have HSM:=Hh (show xO g ob (k*9) m.to V5 from⟨HG5.out.lt (x:= .g) rfl,q05⟩);have HROOM:=Hh hroom;clear hroom;go_wp2_with fail;clear c4 cr5 q05 d4 d4n;refine fx (S:=xO g ob (k*9) m.to) ?_;have I:Below V5.heap.size V5 V5.drew:=(Below.refl _ _).drew;have HD:=Hh (HG5.out.below I);have l:xO g ob (k*9) m.to V5.drew:=HSM.out.below I;refine hT 0 159 l ?_;refine hT 1 160 l ?_;refine hT 5 164 l ?_;refine hT 6 165 l ?_;refine hT 7 166 l ?_;refine hT 11 170 l ?_;refine hT 2 161 l ?_;refine hT 8 167 l ?_;refine hT 3 162 l ?_;refine hT 9 168 l ?_;refine hT 10 169 l ?_;refine hT 12 171 l ?_;have HS0:=Hh l;clear l;obtain⟨U,hU⟩:∃U,U=(V5.alloc (.cells #[.int .i64 i, .int .i64 m.to, .slice a3 (cG m.x).length c3] 99)).drew:=⟨_,rfl⟩
     have O:Below V5.heap.size V5 U:=by rw[hU];exact((Below.refl _ _).alloc (Nat.le_refl _) _).drew
     have HLU:=Hh (HG5.out.below O);have HOU:=Hh (HO5.out.below O);have HBYU:=Hh (OwnBs.below HBY5.out O);have HBU:=Hh (HB5.out.trans (O.mono HG5.out.bs));have HIU:=Hh (show SlAt U U.heap.size 3 (some ⟨V5.heap.size,0,none⟩) 1 1 [.int .i64 i, .int .i64 m.to, .slice a3 (cG m.x).length c3] by rw[show U.heap.size=V5.heap.size+1 by rw[hU];simp,hU];exact(cw V5 #[.int .i64 i, .int .i64 m.to, .slice a3 (cG m.x).length c3] 99 3 rfl).below (show Below (V5.heap.size+1) (V5.alloc (.cells #[.int .i64 i, .int .i64 m.to, .slice a3 (cG m.x).length c3] 99)) _ from(Below.refl _ _).drew) (Nat.le_refl _))
     have HSU:=Hh (HSM.out.below O);have HU:=Hh hU;have HP4:=Hh (show ∀Y,aA Y B g i Gk Mk->Y.cell? ⟨g,4,none⟩=some (.slice (Mk.ra 4) L (Mk.rc 4)) from fun Y hY=>by rw[HLQ.out];exact hY.cl (i:=4) (by omega));clear O hU;apply tR (fun U'=>U'=U);intro W;refine nU 4 13 ?_ ?_
     ·have p4:=HP4.out _ HD.out;go_simp;clear p4;refine⟨HS0.out,?_⟩;refine bp 13 ?_;go_simp;rw[<-HU.out];refine⟨HSU.out,?_⟩;exact W U rfl
     ·go_simp;rw[<-HU.out];refine⟨HSU.out,?_⟩;refine bp 4 ?_;have p4:=HP4.out _ HLU.out;go_simp;clear p4;refine⟨HSU.out,?_⟩;exact W U rfl
     rintro U' rfl;have hrow4:U'.ownsRow 0 99 3 (.slice (Mk.ra 4) L (Mk.rc 4)) L (Mk.ms.flatMap bE.cells):=by rw[HLQ.out];exact HLU.out.rows 4 (by omega)
     have hroom:=HROOM.out;refine bp 14 ?_;refine aS U' (.tmp 163) (.tmp 172) 64 rfl 0 99 iM (.agg #[.int .i64 0, .int .i64 0, .slice none 0 0]) 3 40 Tryz.underlying64 jM jM0 jM1 jM2 rfl (by decide) (.slice (Mk.ra 4) L (Mk.rc 4)) L (Mk.ms.flatMap bE.cells) rfl hrow4 U'.heap.size (some ⟨V5.heap.size,0,none⟩) 1 1 [.int .i64 i, .int .i64 m.to, .slice a3 (cG m.x).length c3] rfl HIU.out (by intro u hu;simp at hu;rcases hu with rfl | rfl | rfl<;>rfl) (by unfold maxLen;omega) (by omega) (Nat.zero_le _) ?_;intro a7 c7 W7 o7 g7 hat7;rw[HLQ.out]at o7 g7 hat7;have hadd:=HLU.out.addMail ⟨(i:Int),m.to,a3,c3,cG m.x⟩ HBYU.out o7 g7 hat7;obtain⟨p2,f2⟩:=HLU.out.cell1 (i:=4) (by omega) g7;have hob7:W7.heap[ob]? =U'.heap[ob]? :=g7.block ob (cI HSU.out.o) (fun e=>by rw[al]at e;obtain⟨cur,hc⟩:=au (HLU.out.rows 4 (by omega)) (k:=ob) e.symm;obtain⟨cur2,hc2⟩:=au HOU.out.ro (k:=ob) rfl;exact fC.2.2.2.1 (aB hc hc2))
     have hS7:xO g ob (k*9) m.to W7:=⟨Nat.lt_of_lt_of_le HSU.out.s g7.size,(cZ hob7).trans HSU.out.o⟩
     refine⟨hS7,?_⟩;go_simp;refine hT 15 174 hS7 ?_;refine hT 16 175 hS7 ?_;refine bp 17 ?_;refine aj 64 (.tmp 175) (.tmp 173) rfl g 4 (.slice a7 (L+1) c7) _ rfl rfl rfl gL p2 f2 ?_;have hbl:=HLU.out.grewBelow (i:=4) (by omega) g7 4 (.slice a7 (Mk.ms.length+1) c7);have hf8:=HLU.out.grewFr (j:=4) (by omega) g7 4 (.slice a7 (Mk.ms.length+1) c7);rw[HLQ.out];have ho8:=eD.mail HLU.out HOU.out hf8;obtain⟨W8,hW8⟩:∃W8,W8=W7.setCell ⟨g,4,none⟩ (.slice a7 (Mk.ms.length+1) c7):=⟨_,rfl⟩
     have hS8:xO g ob (k*9) m.to W8:=⟨by rw[hW8];have d:=hS7.s;simpa using d,by
      rw[hW8];exact(cZ (Below.heap_setCell _ _ _ ob hobg)).trans hS7.o⟩
     rw[<-hW8]at hadd hbl ho8 ⊢;obtain⟨M8,hM8⟩:∃M8:bG,M8={ Mk with ra:=fB Mk.ra 4 a7,rc:=fB Mk.rc 4 c7,ms:=Mk.ms++ [⟨(i:Int),m.to,a3,c3,cG m.x⟩] }:=⟨_,rfl⟩
     have HG8:=Hh (show aA W8 B g i { G2 with bag:=bu i G.bag (R.out.take (k+1)) } M8 by
      have e:({ G2 with bag:=bu i G.bag (R.out.take (k+1)) }:ac)={ Gk with bag:=Gk.bag++ [((i:Int),m.to,cG m.x)] }:=by rw[HTK.out,gI,if_pos (by rw[<-HLB.out];exact HROOM.out),HGKQ.out];rfl
      rw[e,hM8];exact hadd)
     have HQ8:=Hh (show M8.ps[i]? =some (p,N2) by rw[hM8];exact HQK.out);have HO8:=Hh ho8;have HB8:=Hh (HBU.out.trans hbl);refine⟨hS8,dc ?_⟩;clear hS7 hS8 p2 f2 hadd hbl hf8 ho8 hW8 hM8 hob7 o7 g7 hat7 I hrow4 hroom;go_wp2_with fail;go_roundw
     case rel=>exact⟨k+1,M8,by go_num,by omega,HG8.out,HQ8.out,HO8.out,HB8.out⟩
     case measure=>simp[intOf];omega
    ·have d4:decide ((L:Int)<2000)=false:=decide_eq_false (by omega);have d4n:decide (L<2000)=false:=decide_eq_false hroom;have HG6:=Hh (show aA V5 B g i { G2 with bag:=bu i G.bag (R.out.take (k+1)) } Mk by
      rw[HTK.out,gI,if_neg (by rw[<-HLB.out];exact hroom),<-HGKQ.out];exact HG5.out)
     clear hroom;go_wp2_with fail;go_roundw
     case rel=>exact⟨k+1,Mk,by go_num,by omega,HG6.out,HQK.out,HO5.out,HB5.out⟩
     case measure=>simp[intOf];omega
   ·as_aux_lemma=>
    have t1:decide ((k:Int)<(on:Int))=false:=decide_eq_false (by omega);have t1n:decide (k<on)=false:=decide_eq_false hkl;obtain⟨F,hGE⟩:∃F:ac,F={ G2 with bag:=bu i G.bag R.out }:=⟨_,rfl⟩
    obtain⟨ME,hME⟩:∃ME,ME=Mk:=⟨_,rfl⟩
    have HGE:=Hh (show aA wr B g i F ME by have d:=HGK.out;rw[HGKQ.out,List.take_of_length_le (by have:=HOQ.out.2;omega)]at d;rw[hGE,hME];exact d)
    have HQE:=Hh (show ME.ps[i]? =some (p,N2) by rw[hME];exact HQK.out);have HBE:=Hh HBK.out;have hokR:=z.out.ok;have hap0:=hokR.ap0;have hap1:=hokR.ap1;have hbb0:=hokR.line.b0;have hcm:=z.out.cm;have hapS:=z.out.ap;obtain⟨a0,ha0⟩:∃a0:Nat,R.applied=a0:=⟨R.applied.toNat,by omega⟩
    obtain⟨C,hC⟩:∃C:Nat,R.commit=C:=⟨R.commit.toNat,by omega⟩
    have HA0:=Hh ha0;have HC:=Hh hC;have haC:a0<=C:=by omega
    have haS:a0<=G.seen.length:=by omega
    have hC1:C<=10000:=by omega
    have hsl:=z.out.sl;have hll:=z.out.ll;have hps:=z.out.ps;have HWL:=Hh z.out.wl;have HAG:=Hh z.out.ag;have HLED:=Hh z.out.led;have HSEEN:=Hh z.out.seen;have HR1:=Hh (show F.rs[i]? =some P by rw[hGE];exact J.out.1);have HRQ1:=HR1E;have HOK1:=Hh (show P.Ok by rw[HR1E.out,HR0.out];exact((x9 hokR).nws []).out []);have HAT:=Hh (show F.ats[i]? =some R.applied by rw[hGE,HG2Q.out,HGQ1.out];exact HJF.out.1);have HF1:=Hh (show F.seen=G.seen/\F.wh=G.wh/\F.ats=F.ats/\P.applied=a0/\P.commit=C/\(∀j,P.item j=R.item j)/\F.right=true by refine⟨by rw[hGE,HG2Q.out,HGQ1.out];exact HJF.out.2.1,by rw[hGE,HG2Q.out,HGQ1.out];exact HJF.out.2.2.1,rfl,by rw[HR1E.out,HR0E.out];exact ha0,by rw[HR1E.out,HR0E.out];exact hC,fun j=>by rw[HR1E.out,HR0E.out];rfl,by rw[hGE];exact J.out.2.2.1⟩)
    have HLE:=Hh (show F.led=G.led/\F.rs.length<=7 by refine⟨by rw[hGE,HG2Q.out,HGQ1.out];exact HJF.out.2.2.2.2.1,?_⟩;rw[hGE];have d:=J.out.2.2.2;show G2.rs.length<=7;rw[d,<-z.out.rl];exact hps)
    have HCOLL:=Hh (show G.coll i R=if R.role=2 then(F.seenTo i P C).led1 R.bt i else F.seenTo i P C by
     have hjb:(G.jumpd i R).bag=G.bag:=by unfold ac.jumpd;split<;>rfl
     have e:F={ ((G.jumpd i R).noted i R.jump.1) with bag:=bu i ((G.jumpd i R).noted i R.jump.1).bag R.out,rs:=((G.jumpd i R).noted i R.jump.1).rs.set i P }:=by rw[hGE,HG2Q.out,HGQ1.out,HGJQ.out,HR0.out];unfold ac.noted;simp only[List.set_set];rw[hjb]
     unfold ac.coll;simp only;rw[<-HR0.out,<-HR1E.out,HR0.out,<-e,hC];rfl)
    have HG3:=Hh (show aA wr B g i (F.seenTo i P a0) ME by rw[pw HR1.out HF1.out.2.2.2.1 (by rw[HF1.out.2.2.2.1,<-HA0.out];exact HAT.out) (by rw[HF1.out.1];exact haS)];exact HGE.out)
    clear hGE hME hokR hap0 hap1 hbb0 hcm hapS ha0 hC;go_wp2_with fail;go_loopg [] (C-a0) (fun gk wx=>∃(A:Nat) (M':bG) (N':ay),A+gk=C/\a0<=A/\aA wx B g i (F.seenTo i P A) M'/\M'.ps[i]? =some (p,N')/\N'.ps= []/\Below B wo wx)
    case atStart=>exact⟨a0,ME,N2,by omega,by omega,HG3.out,HQE.out,HNE.out,HBE.out⟩
    case round=>
     obtain⟨A,M',N',hgk,hA,hgx,hqx,hnx,hbx⟩:=hrel;have HGX:=Hh hgx;have HQX:=Hh hqx;have HNX:=Hh hnx;have HBX:=Hh hbx;have HGK:=Hh hgk;clear hgx hqx hnx hbx;obtain⟨R2,hR2⟩:∃R2:aa,R2={ P with applied:=(A:Int) }:=⟨_,rfl⟩
     have hlr1:i<F.rs.length:=(List.getElem?_eq_some_iff.1 HR1.out).1;have HR2:=Hh (show(F.seenTo i P A).rs[i]? =some R2 by rw[hR2];show(F.rs.set i _)[i]? =_;rw[aZ hlr1,if_pos rfl]);have HRFX:=Hh (HGX.out.rf i R2 (p,N') HR2.out HQX.out);have J:=Hh (show R2.line=P.line/\R2.applied=A/\R2.commit=C/\R2.role=R.role/\R2.bt=R.bt/\(∀j,R2.item j=R.item j)/\R2.line=R.line by rw[hR2,HRQ1.out,HR0E.out];exact⟨rfl,rfl,HC.out,rfl,rfl,fun j=>rfl,rfl⟩)
     have hap0:=HOK1.out.ap0;have hcm0:=HOK1.out.cm;have HNX9:=Hh (qw p R2 N' (by rw[J.out.1];exact HOK1.out.line) (by rw[J.out.1,J.out.2.1];rw[HF1.out.2.2.2.1]at hap0;omega) (by rw[J.out.2.1,J.out.2.2.1];omega) (by rw[J.out.1,J.out.2.2.1];rw[HF1.out.2.2.2.2.1]at hcm0;exact hcm0) _ HRFX.out);have HRQ2:=Hh hR2;clear hR2 hap0 hcm0;by_cases hAC:A=C
     ·have hn:R2.next=(R2,none):=by unfold aa.next;rw[if_pos (by rw[J.out.2.1,J.out.2.2.1];omega)]
      have HN:=Hh hn;clear hn;subst hAC;go_wp2_with fail;refine HNX9.out.mono ?_;intro e w5 h5;unfold kZ at h5;rw[HN.out]at h5;obtain⟨rfl,M5,hr5,ht5⟩:=h5;have hg5:=HGX.out.putRaft HR2.out HQX.out hr5 ht5;obtain⟨M6,hM6⟩:∃M6:bG,M6={ M' with ps:=M'.ps.set i (p,M5) }:=⟨_,rfl⟩
      have HG6:=Hh (show aA w5 B g i (F.seenTo i P A) M6 by
       rw[<-hM6]at hg5;have e:({ F.seenTo i P A with rs:=(F.seenTo i P A).rs.set i R2 }:ac)=F.seenTo i P A:=by rw[gd HR2.out]
       rw[e]at hg5;exact hg5)
      have HQ6:=Hh (show M6.ps[i]? =some (p,M5) by rw[hM6];show(M'.ps.set i _)[i]? =_;rw[aZ (List.getElem?_eq_some_iff.1 HQX.out).1,if_pos rfl]);have HN6:=Hh (show M5.ps= [] by
       have d:=hr5.po.q;have h8:R2.out= []:=by rw[HRQ2.out,HRQ1.out]
       rw[h8]at d;exact List.map_eq_nil_iff.1 d)
      have HB6:=Hh (HBX.out.trans (ht5.below (fun k hk=>HGX.out.inn (.raft i) k ⟨_,HQX.out,hk⟩) HGX.out.bs));have hro:=J.out.2.2.2.1;have HRO:=Hh hro;clear hr5 ht5 hg5 hM6 hro;obtain⟨W6,hW6⟩:∃W6,W6=w5.alloc (.cells #[.int .i64 0, .slice none 0 0] 40):=⟨_,rfl⟩
      have hb6:Below w5.heap.size w5 W6:=by rw[hW6];exact(Below.refl _ _).alloc (Nat.le_refl _) _
      have HG7:=Hh (HG6.out.below hb6);have HB7:=Hh (HB6.out.trans (hb6.mono HG6.out.bs));have HRF7:=Hh (HG7.out.rf i R2 (p,M5) HR2.out HQ6.out);have HW6:=Hh hW6;clear hb6 hW6;go_wp2_with fail;rw[<-HW6.out];refine(jZ HRF7.out).mono ?_;rintro e w8 ⟨rfl,rfl⟩;rw[HRO.out];have HEQ:=Hh (show G.coll i R=if R.role=2 then(F.seenTo i P A).led1 R.bt i else F.seenTo i P A from HCOLL.out);by_cases hrl:R.role=2
      ·have tr:(R.role==2)=true:=by simpa using hrl
       have HCO:=Hh (show G.coll i R=(F.seenTo i P A).led1 R2.bt i by rw[HEQ.out,if_pos hrl,J.out.2.2.2.2.1])
       have hap9:=HOK1.out.ap0;have hapc:=HOK1.out.ap1;have HOK2:=Hh (show R2.Ok by have d:=HOK1.out;rw[HRQ2.out];exact { d with ap0:=by have:=HF1.out.2.2.2.1;show P.line.base<=(A:Int);omega,ap1:=by have:=HF1.out.2.2.2.2.1;show(A:Int)<=P.commit;omega })
       clear hap9 hapc;have hlen:(F.seenTo i P A).seen.length<=20000/\(F.seenTo i P A).wh.length=(F.seenTo i P A).seen.length:=by unfold ac.seenTo;simp only[List.length_append,List.length_map,List.length_range,List.length_replicate,HF1.out.1,HF1.out.2.1];have d:=HWL.out;omega
       have hbtm:R2.bt<=F.term:=by
        rw[J.out.2.2.2.2.1];have d:=oT (t:=0) (List.mem_of_getElem? HR1.out);have e9:P.bt=R.bt:=by rw[HRQ1.out,HR0E.out]
        rw[e9]at d;exact d
       have HLDS:=Hh (vG HG7.out HR2.out HQ6.out HOK2.out (by show F.right=true;exact HF1.out.2.2.2.2.2.2) (by show F.led.length<=_;rw[HLE.out.1];omega) (by omega) hlen.2 HN6.out
        (fun x hx hb=>HLED.out hrl x (by have d:x∈F.led:=hx;rw[HLE.out.1]at d;exact d) (by rw[<-J.out.2.2.2.2.1];exact hb))
        (fun k x t hk ht htb hbs=>by
         have hk9:(F.seen++(List.range (A-F.seen.length)).map (fun(m:Nat)=>P.item ((F.seen.length+m+1:Nat):Int)))[k]? =some x:=hk;have ht9:(F.wh++List.replicate (A-F.seen.length) F.term)[k]? =some t:=ht;by_cases hks:k<G.seen.length
         ·rw[List.getElem?_append_left (by rw[HF1.out.1];exact hks),HF1.out.1]at hk9;rw[List.getElem?_append_left (by rw[HF1.out.2.1,HWL.out];exact hks),HF1.out.2.1]at ht9;have d:=HSEEN.out hrl k x t hk9 ht9 (by rw[<-J.out.2.2.2.2.1];exact htb) (by rw[<-J.out.2.2.2.2.2.2];exact hbs);rw[J.out.2.2.2.2.2.2,J.out.2.2.2.2.2.1];exact d
         ·exfalso;rw[List.getElem?_append_right (by rw[HF1.out.2.1,HWL.out];omega)]at ht9;have h8:=List.mem_of_getElem? ht9;rw[List.mem_replicate]at h8;omega))
       have HHL:=Hh hrl;clear hrl hlen hbtm;go_wp2_with fail;refine HLDS.out.mono ?_;rintro e w9 ⟨rfl,M9,hg9,hp9,hb9⟩;have HF:=Hh (show aA w9 B g i (G.coll i R) M9 by rw[HCO.out];exact hg9);have HFB:=Hh (HB7.out.trans hb9);have HFQ:=Hh (show M9.ps[i]? =some (p,M5) by rw[hp9];exact HQ6.out);clear hg9 hp9 hb9;go_wp2_with fail;go_end0;exact⟨rfl,M9,M5,HF.out,HFQ.out,HN6.out,by rw[<-HWO.out];exact HFB.out⟩
      ·have tr:(R.role==2)=false:=by simpa using hrl
       have HCO:=Hh (show G.coll i R=F.seenTo i P A by rw[HEQ.out,if_neg hrl])
       clear hrl;go_wp2_with fail;go_end0;exact⟨rfl,M6,M5,by rw[HCO.out];exact HG7.out,HQ6.out,HN6.out,by rw[<-HWO.out];exact HB7.out⟩
     ·have hn:R2.next=({ R2 with applied:=R2.applied+1 },some (R2.applied+1,R2.item (R2.applied+1))):=by unfold aa.next;rw[if_neg (by rw[J.out.2.1,J.out.2.2.1];omega)]
      have HN:=Hh hn;clear hn;have hAC2:A<C:=by omega
      go_wp2_with fail;refine HNX9.out.mono ?_;intro e w5 h5;unfold kZ at h5;rw[HN.out,J.out.2.1]at h5;obtain⟨a5,c5,rfl,hby5,M5,hr5,ht5⟩:=h5;obtain⟨it,hit⟩:∃it,it=R2.item ((A:Int)+1):=⟨_,rfl⟩
      rw[<-hit]at hby5 ⊢;have HIT:=Hh hit;have hg5:=HGX.out.putRaft HR2.out HQX.out hr5 ht5;obtain⟨M6,hM6⟩:∃M6:bG,M6={ M' with ps:=M'.ps.set i (p,M5) }:=⟨_,rfl⟩
      obtain⟨G6,hG6⟩:∃G6:ac,G6={ F.seenTo i P A with rs:=(F.seenTo i P A).rs.set i { R2 with applied:=(A:Int)+1 } }:=⟨_,rfl⟩
      have HG6:=Hh (show aA w5 B g i G6 M6 by rw[hM6,hG6];exact hg5);have HQ6:=Hh (show M6.ps[i]? =some (p,M5) by rw[hM6];show(M'.ps.set i _)[i]? =_;rw[aZ (List.getElem?_eq_some_iff.1 HQX.out).1,if_pos rfl]);have HN6:=Hh (show M5.ps= [] by
       have d:=hr5.po.q;have h8:({ R2 with applied:=(A:Int)+1 }:aa).out= []:=by show R2.out= [];rw[HRQ2.out,HRQ1.out]
       rw[h8]at d;exact List.map_eq_nil_iff.1 d)
      have HB6:=Hh (HBX.out.trans (ht5.below (fun k hk=>HGX.out.inn (.raft i) k ⟨_,HQX.out,hk⟩) HGX.out.bs));have HBY6:=Hh hby5;have HM6:=Hh hM6;have HG6Q:=Hh hG6;clear hr5 ht5 hg5 hM6 hG6 hit hby5;obtain⟨V,hV⟩:∃V,V=w5.alloc (.cells #[.int .i64 it.1, .slice a5 it.2.length c5] 40):=⟨_,rfl⟩
      have hbV:Below w5.heap.size w5 V:=by rw[hV];exact(Below.refl _ _).alloc (Nat.le_refl _) _
      have hrV:V.heap[w5.heap.size]? =some (.cells #[.int .i64 it.1, .slice a5 it.2.length c5] 40 (0,0)):=by rw[hV];exact heap_alloc_new w5 _
      have HGV:=Hh (HG6.out.below hbV);have HBV:=Hh (HB6.out.trans (hbV.mono HG6.out.bs));have HRV:=Hh hrV;have HBYV:=Hh (OwnBs.below HBY6.out hbV);have HV:=Hh hV;clear hbV hrV hV;go_upto_region 19 with fail
      rw[<-HV.out];have hr6:G6.right=true:=by rw[HG6Q.out];exact HF1.out.2.2.2.2.2.2
      have hl3:i<G6.ats.length:=by rw[HG6Q.out];show i<(F.ats.set i (A:Int)).length;rw[List.length_set];exact(List.getElem?_eq_some_iff.1 HAT.out).1
      have ha6:G6.ats[i]? =some (A:Int):=by rw[HG6Q.out];show(F.ats.set i (A:Int))[i]? =_;rw[aZ (List.getElem?_eq_some_iff.1 HAT.out).1,if_pos rfl]
      obtain⟨b3,hb31,hb32,hb33,hb34⟩:=HGV.out.at_ (i:=3) (by omega) (j:=i) (by show i<G6.ats.length*1;omega);have cr:V.cell? ⟨g,8,none⟩=some (.bool true):=by rw[<-hr6];exact HGV.out.cr
      have fr:=HGV.out.f 8;have c3:V.cell? ⟨g,3,none⟩=some (.slice (some ⟨b3,0,none⟩) G6.ats.length (M6.rc 3)):=by rw[<-hb31];exact HGV.out.cl (i:=3) (by omega)
      have k3:V.cell? ⟨b3,i,none⟩=some (.int .i64 A):=by rw[hb32];show(G6.ats.map iz)[i]? =_;rw[List.getElem?_map,ha6];rfl
      obtain⟨S,D⟩:∃S,S=M6.ss.length:=⟨_,rfl⟩
      have c5':V.cell? ⟨g,5,none⟩=some (.slice (M6.ra 5) S (M6.rc 5)):=by rw[D];exact HGV.out.cl (i:=5) (by omega)
      have hSl:S=G6.seen.length:=by rw[D,<-HGV.out.ct.sq];simp
      have hSA:A<=S:=by rw[hSl,HG6Q.out];show A<=(F.seen++_).length;rw[List.length_append,List.length_map,List.length_range];omega
      have hS2:S<=20000:=by rw[hSl,HG6Q.out];show(F.seen++_).length<=_;rw[List.length_append,List.length_map,List.length_range,HF1.out.1];omega
      have hi3:(i:Int)<(G6.ats.length:Int):=by omega
      have tle:decide ((A:Int)+1<=(S:Int)+1)=true:=decide_eq_true (by omega);have tlen:decide (A<=S)=true:=decide_eq_true hSA;have HB3:=Hh hb31;have HSQ:=Hh D;have HSL:=Hh hSl;obtain⟨V2,hV2⟩:∃V2,V2=(V.setCell ⟨g,8,none⟩ (.bool true)).setCell ⟨b3,i,none⟩ (.int .i64 ((A:Int)+1)):=⟨_,rfl⟩
      obtain⟨G7,hG7⟩:∃G7:ac,G7={ G6 with ats:=G6.ats.set i ((A:Int)+1) }:=⟨_,rfl⟩
      have HG7:=Hh (show aA V2 B g i G7 M6 by
       have h1:=HGV.out.setRight true;have e:({ G6 with right:=true }:ac)=G6:=by rw[<-hr6]
       rw[e]at h1;have h2:=h1.setAt (i:=i) hl3 (b:=b3) (cap:=M6.rc 3) (by show Value.slice (M6.ra 3) G6.ats.length (M6.rc 3)=_;rw[hb31]) ((A:Int)+1);rw[hV2,hG7];exact h2)
      have HB7:=Hh (show Below B wo V2 from HBV.out.trans ((bQ (HGV.out.inn .g g rfl) _).trans (by rw[hV2];exact bQ (HGV.out.inn (.row 3) b3 ⟨by omega,by rw[hb31];rfl⟩) _)));have hb3g:b3≠g:=fun e=>by have h8:=HGV.out.dis .g (.row 3) b3 e ⟨by omega,by rw[hb31];rfl⟩;cases h8
      have k3':(V.setCell ⟨g,8,none⟩ (.bool true)).cell? ⟨b3,i,none⟩=some (.int .i64 A):=(cZ (Below.heap_setCell _ _ _ b3 hb3g)).trans k3;have f3':(V.setCell ⟨g,8,none⟩ (.bool true)).frozen? ⟨b3,i,none⟩=false:=by
       have h1:=HGV.out.setRight true;obtain⟨q,e1,_,e3,_⟩:=h1.at_ (i:=3) (by omega) (j:=i) (by show i<G6.ats.length*1;omega);rw[hb31]at e1;injection e1 with e1;injection e1 with e1;subst e1
       exact e3
      have c5'':((V.setCell ⟨g,8,none⟩ (.bool true)).setCell ⟨b3,i,none⟩ (.int .i64 ((A:Int)+1))).cell? ⟨g,5,none⟩=some (.slice (M6.ra 5) S (M6.rc 5)):=by rw[<-hV2,D];exact HG7.out.cl (i:=5) (by omega)
      have HG7Q:=Hh hG7;have HV2:=Hh hV2;clear hr6 ha6 hb31 hb32 hb34 D hSl hG7 hV2;have HEQ9:=Hh (show G7=F.oneMore i P A by rw[HG7Q.out,HG6Q.out,HRQ2.out];rfl);have HITR:=Hh (show P.item ((A:Int)+1)=it by rw[HIT.out,HRQ2.out];rfl);have HSG:=Hh (show S=(F.seenTo i P A).seen.length by rw[HSL.out,HG6Q.out]);have HRB:=Hh (show V2.heap[w5.heap.size]? =some (.cells #[.int .i64 it.1, .slice a5 it.2.length c5] 40 (0,0)) by
       have hg9:w5.heap.size≠g:=fun e=>by have d:=HGV.out.row;rw[<-e]at d;exact absurd (aB d HRV.out) (by decide)
       have hb9:w5.heap.size≠b3:=fun e=>by obtain⟨cur,d⟩:=au (HGV.out.rows 3 (by omega)) (k:=b3) (by rw[HB3.out];rfl);rw[<-e]at d;exact absurd (aB d HRV.out) (by decide)
       rw[HV2.out];exact(Below.heap_setCell _ _ _ _ hb9).trans ((Below.heap_setCell _ _ _ _ hg9).trans HRV.out))
      have HBY2:=Hh (show cS V2 a5 c5 it.2 from OwnBs.grown (T:=5) HBYV.out (fun k cs fr' hk hc=>by
       have hg9:k≠g:=fun e=>by rw[e]at hc;exact absurd (aB HGV.out.row hc) (by decide)
       have hb9:k≠b3:=fun e=>by obtain⟨cur,d⟩:=au (HGV.out.rows 3 (by omega)) (k:=b3) (by rw[HB3.out];rfl);rw[e]at hc;exact absurd (aB d hc) (by decide)
       rw[HV2.out];exact(Below.heap_setCell _ _ _ _ hb9).trans (Below.heap_setCell _ _ _ _ hg9)) (by rw[HV2.out];simp))
      go_upto_if 232 with fail
      rw[<-HV2.out];clear cr fr c3 k3 hb33 hi3 hb3g k3' f3' c5' c5'' tle tlen;go_cut [] (fun wc=>∃M8,aA wc B g i (F.seenTo i P (A+1)) M8/\M8.ps=M6.ps/\Below B wo wc/\wc.heap[w5.heap.size]? =some (.cells #[.int .i64 it.1, .slice a5 it.2.length c5] 40 (0,0))/\cS wc a5 c5 it.2)
      case first=>
       by_cases hAS:A=S
       ·have tS:((A:Int)+1==(S:Int)+1)=true:=by rw[beq_iff_eq];omega
        have HAS:=Hh hAS;clear hAS;go_wp2_with fail;refine fx (S:=wO g w5.heap.size it.1 a5 it.2.length c5) ?_;have I:Below V2.heap.size V2 V2.drew:=(Below.refl _ _).drew;have hg9:=HG7.out.lt (x:= .g) rfl;have l:wO g w5.heap.size it.1 a5 it.2.length c5 V2.drew:=wO.of hg9 HRB.out;refine hT 0 233 l ?_;refine hT 1 234 l ?_;refine hT 5 238 l ?_;refine hT 2 235 l ?_;refine hT 3 236 l ?_;have HS0:=Hh l;clear l;obtain⟨U,hU⟩:∃U,U=(V2.alloc (.cells #[.int .i64 it.1, .slice a5 it.2.length c5] 40)).drew:=⟨_,rfl⟩
        have O:Below V2.heap.size V2 U:=by rw[hU];exact((Below.refl _ _).alloc (Nat.le_refl _) _).drew
        have HLU:=Hh (HG7.out.below O);have HBU:=Hh (HB7.out.trans (O.mono HG7.out.bs));have HIU:=Hh (show SlAt U U.heap.size 2 (some ⟨V2.heap.size,0,none⟩) 1 1 [.int .i64 it.1, .slice a5 it.2.length c5] by rw[show U.heap.size=V2.heap.size+1 by rw[hU];simp,hU];exact(cw V2 #[.int .i64 it.1, .slice a5 it.2.length c5] 40 2 rfl).below (show Below (V2.heap.size+1) (V2.alloc (.cells #[.int .i64 it.1, .slice a5 it.2.length c5] 40)) _ from(Below.refl _ _).drew) (Nat.le_refl _))
        have HRU:=Hh ((O.block w5.heap.size (Array.getElem?_eq_some_iff.1 HRB.out).1).trans HRB.out);have HYU:=Hh (show OwnBs 5 U ⟨it.1,a5,it.2.length,c5,it.2⟩ by have d:=OwnBs.below HBY2.out O;exact⟨⟨d.1.hlen,d.1.hle,d.1.hmax,d.1.hnil,d.1.hbig,d.1.hat⟩,d.2⟩)
        have HYB:=Hh (OwnBs.below HBY2.out O);have HU:=Hh hU;have HSU:=Hh (show wO g w5.heap.size it.1 a5 it.2.length c5 U from wO.of (HLU.out.lt (x:= .g) rfl) HRU.out);clear O hU;apply tR (fun U'=>U'=U);intro W;refine nU 4 6 ?_ ?_
        ·have p4:V2.cell? ⟨g,5,none⟩=some (.slice (M6.ra 5) S (M6.rc 5)):=by rw[HSQ.out];exact HG7.out.cl (i:=5) (by omega)
         go_simp;clear p4;refine⟨HS0.out,?_⟩;refine bp 6 ?_;go_simp;rw[<-HU.out];refine⟨HSU.out,?_⟩;exact W U rfl
        ·go_simp;rw[<-HU.out];refine⟨HSU.out,?_⟩;refine bp 4 ?_;have p4:U.cell? ⟨g,5,none⟩=some (.slice (M6.ra 5) S (M6.rc 5)):=by rw[HSQ.out];exact HLU.out.cl (i:=5) (by omega)
         go_simp;clear p4;refine⟨HSU.out,?_⟩;exact W U rfl
        rintro U' rfl;have hrow5:U'.ownsRow 0 40 2 (.slice (M6.ra 5) S (M6.rc 5)) S (aK M6.ss):=by rw[HSQ.out];exact HLU.out.rows 5 (by omega)
        refine bp 7 ?_;refine aS U' (.tmp 237) (.tmp 239) 30 rfl 0 40 iT (.agg #[.int .i64 0, .slice none 0 0]) 2 32 Tryz.underlying30 jT jT0 jT1 jT2 rfl (by decide) (.slice (M6.ra 5) S (M6.rc 5)) S (aK M6.ss) rfl hrow5 U'.heap.size (some ⟨V2.heap.size,0,none⟩) 1 1 [.int .i64 it.1, .slice a5 it.2.length c5] rfl HIU.out (by intro u hu;simp at hu;rcases hu with rfl | rfl<;>rfl) (by unfold maxLen;omega) (by omega) (Nat.zero_le _) ?_;intro a11 c11 W11 o11 g11 hat11;rw[HSQ.out]at o11 g11 hat11;have hadd:=HLU.out.addSeen (fun q hq=>by rw[HQ6.out]at hq;injection hq with hq;rw[<-hq];exact HN6.out) ⟨it.1,a5,it.2.length,c5,it.2⟩ HYU.out o11 g11 hat11
        obtain⟨p2,f2⟩:=HLU.out.cell1 (i:=5) (by omega) g11;have hbx:W11.heap[w5.heap.size]? =some (.cells #[.int .i64 it.1, .slice a5 it.2.length c5] 40 (0,0)):=(g11.block w5.heap.size (Array.getElem?_eq_some_iff.1 HRU.out).1 (fun e=>by have d:=HG6.out.lt (x:= .row 5) (k:=w5.heap.size) ⟨by omega,by rw[al]at e;exact e.symm⟩;omega)).trans HRU.out
        have hS11:wO g w5.heap.size it.1 a5 it.2.length c5 W11:=wO.of (Nat.lt_of_lt_of_le HSU.out.s g11.size) hbx;refine⟨hS11,?_⟩;go_simp;refine hT 8 241 hS11 ?_;refine hT 9 242 hS11 ?_;refine bp 10 ?_;refine aj 30 (.tmp 242) (.tmp 240) rfl g 5 (.slice a11 (S+1) c11) _ rfl rfl rfl nA p2 f2 ?_;have hbl:=HLU.out.grewBelow (i:=5) (by omega) g11 5 (.slice a11 (M6.ss.length+1) c11);have hf12:=HLU.out.grewFr (j:=5) (by omega) g11 5 (.slice a11 (M6.ss.length+1) c11);rw[HSQ.out];obtain⟨W12,hW12⟩:∃W12,W12=W11.setCell ⟨g,5,none⟩ (.slice a11 (M6.ss.length+1) c11):=⟨_,rfl⟩
        have hig:w5.heap.size≠g:=fun e=>by have d:=HG6.out.lt (x:= .g) (k:=g) rfl;omega
        have hbx2:W12.heap[w5.heap.size]? =some (.cells #[.int .i64 it.1, .slice a5 it.2.length c5] 40 (0,0)):=by rw[hW12];exact(Below.heap_setCell _ _ _ _ hig).trans hbx
        rw[<-hW12]at hadd hbl hf12 ⊢;have HY12:=Hh (HLU.out.bytes hf12 HYB.out);have HG12:=Hh hadd;have HB12:=Hh (HBU.out.trans hbl);have HR12:=Hh hbx2;have hS12:wO g w5.heap.size it.1 a5 it.2.length c5 W12:=wO.of (hadd.lt (x:= .g) rfl) hbx2;refine⟨hS12,dc ?_⟩;clear hS11 hS12 p2 f2 hbx hbx2 hadd hbl hf12 hig hW12 o11 g11 hat11 I hrow5;obtain⟨GX,hGX⟩:∃GX:ac,GX={ G7 with seen:=G7.seen++ [it] }:=⟨_,rfl⟩
        obtain⟨MX,hMX⟩:∃MX:bG,MX={ M6 with ra:=fB M6.ra 5 a11,rc:=fB M6.rc 5 c11,ss:=M6.ss++ [⟨it.1,a5,it.2.length,c5,it.2⟩] }:=⟨_,rfl⟩
        have HGX2:=Hh (show aA W12 B g i GX MX by rw[hGX,hMX];exact HG12.out);have HMXP:=Hh (show MX.ps=M6.ps by rw[hMX]);have hrs7:G7.rs=F.rs.set i { P with applied:=(A:Int)+1 }:=by rw[HEQ9.out];show(F.rs.set i _).set i _=_;rw[List.set_set]
        have hrsX:GX.rs=F.rs.set i { P with applied:=(A:Int)+1 }:=by rw[hGX];exact hrs7
        have HTX:=Hh (show GX.term=F.term from uV (R':={ P with applied:=(A:Int)+1 }) HR1.out rfl GX hrsX);have hpX:MX.ps.length<=7:=by rw[HGX2.out.rl,hrsX,List.length_set];exact HLE.out.2
        have hwX:GX.wh.length<=20000:=by rw[hGX];show G7.wh.length<=_;rw[HEQ9.out];show(F.wh++_).length<=_;rw[List.length_append,List.length_replicate,HF1.out.2.1,HWL.out];omega
        have HGXQ:=Hh hGX;clear hGX hMX hrs7 hrsX;go_wp2_with fail;refine fx (S:=PZ g) ?_;have I:Below W12.heap.size W12 W12.drew:=(Below.refl _ _).drew;have HD:=Hh (HGX2.out.below I);have l:PZ g W12.drew:=⟨HD.out.lt (x:= .g) rfl⟩
        refine hT 0 243 l ?_;refine hT 1 244 l ?_;refine hT 5 248 l ?_;refine hT 2 245 l ?_;refine hT 3 246 l ?_;have HS0:=Hh l;clear l;obtain⟨U,hU⟩:∃U,U=(W12.alloc (.cells #[.int .i64 F.term] 3)).drew:=⟨_,rfl⟩
        have O:Below W12.heap.size W12 U:=by rw[hU];exact((Below.refl _ _).alloc (Nat.le_refl _) _).drew
        have HLU2:=Hh (HGX2.out.below O);have HBU2:=Hh (HB12.out.trans (O.mono HGX2.out.bs));have HIU2:=Hh (show SlAt U U.heap.size 1 (some ⟨W12.heap.size,0,none⟩) 1 1 [.int .i64 F.term] by rw[show U.heap.size=W12.heap.size+1 by rw[hU];simp,hU];exact(dr W12 _ _).below (show Below (W12.heap.size+1) (W12.alloc (.cells #[.int .i64 F.term] 3)) _ from(Below.refl _ _).drew) (Nat.le_refl _))
        have HRU2:=Hh ((O.block w5.heap.size (Array.getElem?_eq_some_iff.1 HR12.out).1).trans HR12.out);have HYU2:=Hh (OwnBs.below HY12.out O);have HU2:=Hh hU;have HSU2:=Hh (show PZ g U from⟨HLU2.out.lt (x:= .g) rfl⟩);have HTM:=Hh (xf HD.out hpX);clear O hU;apply tR (fun U'=>U'=U);intro W;have HP6:=Hh (show ∀Y,aA Y B g i GX MX->Y.cell? ⟨g,6,none⟩=some (.slice (MX.ra 6) GX.wh.length (MX.rc 6)) from fun Y hY=>hY.cl (i:=6) (by omega));refine nU 4 6 ?_ ?_
        ·have p4:=HP6.out _ HD.out;go_simp;clear p4;refine⟨HS0.out,?_⟩;refine bp 6 ?_;go_simp;refine HTM.out.mono ?_;rintro e w9 ⟨rfl,rfl⟩;rw[HTX.out];refine⟨HS0.out,?_⟩;refine bp 7 ?_;go_simp;rw[<-HU2.out];refine⟨HSU2.out,?_⟩;exact W U rfl
        ·go_simp;refine HTM.out.mono ?_;rintro e w9 ⟨rfl,rfl⟩;rw[HTX.out];refine⟨HS0.out,?_⟩;refine nU 4 7 ?_ ?_
         ·have p4:=HP6.out _ HD.out;go_simp;clear p4;refine⟨HS0.out,?_⟩;refine bp 7 ?_;go_simp;rw[<-HU2.out];refine⟨HSU2.out,?_⟩;exact W U rfl
         ·go_simp;rw[<-HU2.out];refine⟨HSU2.out,?_⟩;refine bp 4 ?_;have p4:=HP6.out _ HLU2.out;go_simp;clear p4;refine⟨HSU2.out,?_⟩;exact W U rfl
        rintro U' rfl;refine bp 8 ?_;refine aS U' (.tmp 247) (.tmp 250) 63 rfl 0 3 iI (.int .i64 0) 1 8 Tryz.underlying63 jI jI0 jI1 jI2 rfl (by decide) (.slice (MX.ra 6) GX.wh.length (MX.rc 6)) GX.wh.length (GX.wh.map iz) rfl (HLU2.out.rows 6 (by omega)) U'.heap.size (some ⟨W12.heap.size,0,none⟩) 1 1 [.int .i64 F.term] rfl HIU2.out (by intro u hu;simp at hu;subst hu;rfl) (by unfold maxLen;omega) (by omega) (Nat.zero_le _) ?_;intro a21 c21 W21 o21 g21 hat21;have hadd:=HLU2.out.addWhen F.term o21 g21 hat21;obtain⟨p2,f2⟩:=HLU2.out.cell1 (i:=6) (by omega) g21;have hS21:PZ g W21:=⟨Nat.lt_of_lt_of_le HSU2.out.s g21.size⟩
        refine⟨hS21,?_⟩;go_simp;refine hT 9 252 hS21 ?_;refine hT 10 253 hS21 ?_;refine bp 11 ?_;refine aj 63 (.tmp 253) (.tmp 251) rfl g 6 (.slice a21 (GX.wh.length+1) c21) _ rfl rfl rfl uy p2 f2 ?_;have hbl:=HLU2.out.grewBelow (i:=6) (by omega) g21 6 (.slice a21 (GX.wh.length+1) c21);have hf22:=HLU2.out.grewFr (j:=6) (by omega) g21 6 (.slice a21 (GX.wh.length+1) c21);obtain⟨W22,hW22⟩:∃W22,W22=W21.setCell ⟨g,6,none⟩ (.slice a21 (GX.wh.length+1) c21):=⟨_,rfl⟩
        rw[<-hW22]at hadd hbl hf22 ⊢;have hbx2:W22.heap[w5.heap.size]? =some (.cells #[.int .i64 it.1, .slice a5 it.2.length c5] 40 (0,0)):=(hf22.block w5.heap.size (Array.getElem?_eq_some_iff.1 HRU2.out).1 (fun x hx D=>by
         rcases D with rfl | rfl
         ·have e:w5.heap.size=g:=hx;have d:=HLU2.out.row;rw[<-e]at d;exact absurd (aB d HRU2.out) (by decide)
         ·obtain⟨cur,d⟩:=au (HLU2.out.rows 6 (by omega)) (k:=w5.heap.size) hx.2;exact absurd (aB d HRU2.out) (by decide))).trans HRU2.out
        have hle9:F.seen.length<=A:=by have d:=HSG.out;have h8:=HAS.out;unfold ac.seenTo at d;simp only[List.length_append,List.length_map,List.length_range]at d;omega
        have heq9:({ GX with wh:=GX.wh++ [F.term] }:ac)=F.seenTo i P (A+1):=by rw[<-qE hle9,HITR.out,<-HEQ9.out,HGXQ.out]
        rw[heq9]at hadd;have HF22:=Hh hadd;have HB22:=Hh (HBU2.out.trans hbl);have HR22:=Hh hbx2;have HY22:=Hh (HLU2.out.bytes hf22 HYU2.out);have hS22:PZ g W22:=⟨hadd.lt (x:= .g) rfl⟩
        refine⟨hS22,dc ?_⟩;clear hS21 hS22 p2 f2 hbx2 hadd hbl hf22 hle9 heq9 hW22 o21 g21 hat21 I hpX hwX;go_wp2_with fail;go_meet;exact⟨_,HF22.out,HMXP.out,HB22.out,HR22.out,HY22.out⟩
       ·have tS:((A:Int)+1==(S:Int)+1)=false:=by rw[beq_eq_false_iff_ne];omega
        have HFIN:=Hh (show aA V2 B g i (F.seenTo i P (A+1)) M6 by
         rw[<-qD (by have d:=HSG.out;unfold ac.seenTo at d;simp only[List.length_append,List.length_map,List.length_range]at d;omega),<-HEQ9.out]
         exact HG7.out)
        go_wp2_with fail;go_meet;exact⟨M6,HFIN.out,rfl,HB7.out,HRB.out,HBY2.out⟩
      case rest=>
       obtain⟨M8,hg8,hp8,hb8,hr8,hy8⟩:=hcut;obtain⟨G9,hG9⟩:∃G9:ac,G9=F.seenTo i P (A+1):=⟨_,rfl⟩
       rw[<-hG9]at hg8;obtain⟨n9,hn9⟩:∃n9,n9=M8.ss.length:=⟨_,rfl⟩
       have hsn:n9=G9.seen.length:=by rw[hn9,<-hg8.ct.sq];simp
       have hgl:G9.seen.length=F.seen.length+(A+1-F.seen.length):=by rw[hG9];unfold ac.seenTo;simp only[List.length_append,List.length_map,List.length_range]
       have hAn:A<n9:=by omega
       have hn92:n9<=20000:=by rw[hsn,hgl,HF1.out.1];omega
       have hseenA:G9.seen[A]? =some it:=by
        rw[hG9];show(F.seen++(List.range (A+1-F.seen.length)).map (fun(m:Nat)=>P.item ((F.seen.length+m+1:Nat):Int)))[A]? =_;by_cases hAs:A<F.seen.length
        ·rw[List.getElem?_append_left hAs];obtain⟨x,hx⟩:∃x,F.seen[A]? =some x:=⟨_,List.getElem?_eq_getElem hAs⟩
         have d:=HAG.out A x (by rw[<-HF1.out.1];exact hx) (by rw[HA0.out];omega) (by rw[HC.out];omega);rw[hx,HIT.out,J.out.2.2.2.2.2.1,<-d];rfl
        ·rw[List.getElem?_append_right (by omega),List.getElem?_map,List.getElem?_range (by omega)];show some (P.item ((F.seen.length+(A-F.seen.length)+1:Nat):Int))=_;rw[show F.seen.length+(A-F.seen.length)+1=A+1 by omega,<-HITR.out];rfl
       obtain⟨ms,hms⟩:∃ms,M8.ss[A]? =some ms:=⟨_,List.getElem?_eq_getElem (by omega)⟩
       have hmx:ms.it=it:=by
        have d:=hg8.ct.sq;have h8:(M8.ss.map af.it)[A]? =some it:=by rw[d];exact hseenA
        rw[List.getElem?_map,hms]at h8;injection h8
       obtain⟨q5,hq51,hq52,_,hq54⟩:=hg8.at_ (i:=5) (by omega) (j:=A*2) (by show A*2<M8.ss.length*2;omega);obtain⟨q5',hq51',hq52',_,_⟩:=hg8.at_ (i:=5) (by omega) (j:=A*2+1) (by show A*2+1<M8.ss.length*2;omega);rw[hq51]at hq51';injection hq51' with e1;injection e1 with e1;subst e1;obtain⟨m1,hm1⟩:∃m1:af,m1=⟨it.1,a5,it.2.length,c5,it.2⟩:=⟨_,rfl⟩
       have hr9:G9.right=true:=by rw[hG9];exact HF1.out.2.2.2.2.2.2
       have hcr:=hg8.cr;rw[hr9]at hcr;have hd5:wc.cell? ⟨g,5,none⟩=some (.slice (some ⟨q5,0,none⟩) n9 (M8.rc 5)):=by rw[<-hq51,hn9];exact hg8.cl (i:=5) (by omega)
       have HSV:=Hh (show tL g q5 (A*2) w5.heap.size n9 (M8.rc 5) m1 ms wc from
        ⟨hg8.lt (x:= .g) rfl,hcr,hd5,hq52.trans (dF _ _ _ hms).1,hq52'.trans (dF _ _ _ hms).2,by rw[hm1,cell_of_row _ _ 0 _ _ _ hr8];rfl,by rw[hm1,cell_of_row _ _ 1 _ _ _ hr8];rfl⟩)
       have HO1:=Hh (show OwnBs 5 wc m1 by rw[hm1];exact⟨⟨hy8.1.hlen,hy8.1.hle,hy8.1.hmax,hy8.1.hnil,hy8.1.hbig,hy8.1.hat⟩,hy8.2⟩)
       have HO2:=Hh (hg8.ct.sb ms (List.mem_of_getElem? hms));have HSAME:=Hh (show decide (([m1]:List af).map af.it=([ms]:List af).map af.it)=true by
        refine decide_eq_true ?_;show[m1.it]= [ms.it]
        rw[hmx,hm1])
       have HG8:=Hh hg8;have HP8:=Hh hp8;have HB8:=Hh hb8;have HR8:=Hh hr8;have HR9:=Hh hr9;have HG9:=Hh hG9;have HQ5:=Hh hq51;have hw6:w5.heap.size<wc.heap.size:=(Array.getElem?_eq_some_iff.1 hr8).1;have hA0:(0:Int)<=(A:Int):=by omega
       have hA1:(A:Int)<(n9:Int):=by omega
       clear hm1 hg8 hp8 hb8 hr8 hy8 hG9 hq51 hq52 hq52' hseenA hms hmx hcr hd5 hr9 hn9 hsn hgl;go_wp2_with fail;refine fx (S:=tL g q5 (A*2) w5.heap.size n9 (M8.rc 5) m1 ms) ?_;have I:Below wc.heap.size wc wc.drew:=(Below.refl _ _).drew;have l:tL g q5 (A*2) w5.heap.size n9 (M8.rc 5) m1 ms wc.drew:=⟨HSV.out.s,HSV.out.r,HSV.out.s5,HSV.out.x0,HSV.out.x1,HSV.out.i0,HSV.out.i1⟩
       have wA:IntKind.i64.wrap ((A:Int)+1-1)=(A:Int):=by rw[IntWalk.i64_in _ (by omega)];omega
       have wA2:IntKind.i64.wrap (A:Int)=(A:Int):=IntWalk.i64_in _ (by omega);refine hT 0 254 l ?_;refine hT 1 255 l ?_;refine hT 3 257 l ?_;refine hT 7 261 l ?_;refine hT 4 258 l ?_;refine hV 8 262 (.int .i64 A) l ?_;clear wA wA2;refine hT 5 259 l ?_;refine hT 6 260 l ?_;refine hT 9 263 l ?_;refine hT 10 264 l ?_;have HS0:=Hh l;clear l;have HKS:=Hh (show ∀U,Below wc.heap.size wc U->tL g q5 (A*2) w5.heap.size n9 (M8.rc 5) m1 ms U from fun U hb=>by
        have hg5:q5<wc.heap.size:=by have d:=HSV.out.x0;exact cI d
        exact⟨Nat.lt_of_lt_of_le HSV.out.s hb.size,(hb.cell (p:=⟨g,8,none⟩) HSV.out.s).trans HSV.out.r,(hb.cell (p:=⟨g,5,none⟩) HSV.out.s).trans HSV.out.s5,(hb.cell (p:=⟨q5,A*2,none⟩) hg5).trans HSV.out.x0,(hb.cell (p:=⟨q5,A*2+1,none⟩) hg5).trans HSV.out.x1,(hb.cell (p:=⟨w5.heap.size,0,none⟩) hw6).trans HSV.out.i0,(hb.cell (p:=⟨w5.heap.size,1,none⟩) hw6).trans HSV.out.i1⟩)
       apply yM (fun U n1 n2=>wE wc m1 ms U n1 n2);intro W;obtain⟨UA,hUA⟩:∃UA,UA=((wc.alloc (.cells #[.int .i64 m1.t, .slice m1.a m1.n m1.c] 40)).alloc (.cells #[.int .i64 ms.t, .slice ms.a ms.n ms.c] 40)).drew:=⟨_,rfl⟩
       obtain⟨UB,hUB⟩:∃UB,UB=((wc.alloc (.cells #[.int .i64 ms.t, .slice ms.a ms.n ms.c] 40)).alloc (.cells #[.int .i64 m1.t, .slice m1.a m1.n m1.c] 40)).drew:=⟨_,rfl⟩
       have HUA:=Hh hUA;have HUB:=Hh hUB;have hab:=wE.ab wc HO1.out HO2.out;have hba:=wE.ba wc HO1.out HO2.out;rw[<-hUA]at hab;rw[<-hUB]at hba;have HAB:=Hh hab;have HBA:=Hh hba;clear hUA hUB hab hba;have HA1:=Hh (show tL g q5 (A*2) w5.heap.size n9 (M8.rc 5) m1 ms (wc.alloc (.cells #[.int .i64 m1.t, .slice m1.a m1.n m1.c] 40)).drew from HKS.out _ (((Below.refl _ wc).alloc (Nat.le_refl _) _).drew));have HB1:=Hh (show tL g q5 (A*2) w5.heap.size n9 (M8.rc 5) m1 ms (wc.alloc (.cells #[.int .i64 ms.t, .slice ms.a ms.n ms.c] 40)).drew from HKS.out _ (((Below.refl _ wc).alloc (Nat.le_refl _) _).drew));have HUAS:=Hh (HKS.out _ HAB.out.bl);have HUBS:=Hh (HKS.out _ HBA.out.bl);refine nU 2 11 ?_ ?_
       ·go_simp;refine⟨HA1.out,?_⟩;refine bp 11 ?_;go_simp;rw[<-HUA.out];refine⟨HUAS.out,?_⟩;have hab:=HAB.out;generalize wc.heap.size+1=n2 at hab ⊢;generalize wc.heap.size=n1 at hab ⊢;exact W UA _ _ hab
       ·go_simp;refine⟨HB1.out,?_⟩;refine bp 2 ?_;go_simp;rw[<-HUB.out];refine⟨HUBS.out,?_⟩;have hab:=HBA.out;generalize wc.heap.size+1=n2 at hab ⊢;generalize wc.heap.size=n1 at hab ⊢;exact W UB _ _ hab
       intro U n1 n2 hsm;have HSM:=Hh hsm;clear hsm;refine bp 12 ?_;go_simp;refine(ta [m1] [ms] (some ⟨n1,0,none⟩) (some ⟨n2,0,none⟩) 1 1 1 1 (by omega) U HSM.out.i1 HSM.out.i2).mono ?_;rintro e V9 ⟨rfl,hb9⟩;rw[HSAME.out];have HB9:=Hh (HSM.out.bl.trans (hb9.mono HSM.out.bl.size));have HL9:=Hh (HG8.out.below HB9.out);have hS9:=HKS.out _ HB9.out;clear hb9;refine⟨hS9,?_⟩;refine hT 13 267 hS9 ?_;refine hT 14 268 hS9 ?_;refine bp 15 ?_;refine aj 4 (.tmp 268) (.tmp 266) rfl g 8 (.bool true) _ rfl rfl rfl iL hS9.r (HL9.out.f 8) ?_;have HRG:=Hh (show aA (V9.setCell ⟨g,8,none⟩ (.bool true)) B g i G9 M8 by
        have h1:=HL9.out.setRight true;have e:({ G9 with right:=true }:ac)=G9:=by rw[<-HR9.out]
        rw[e]at h1;exact h1)
       have HBG:=Hh (show Below B wo (V9.setCell ⟨g,8,none⟩ (.bool true)) from HB8.out.trans ((HB9.out.mono HG8.out.bs).trans (bQ (HL9.out.inn .g g rfl) _)));obtain⟨W9,hW9⟩:∃W9,W9=V9.setCell ⟨g,8,none⟩ (.bool true):=⟨_,rfl⟩
       have hc9:∀(b k:Nat),b≠g->W9.cell? ⟨b,k,none⟩=V9.cell? ⟨b,k,none⟩:=fun b k hb=>by rw[hW9];exact cZ (Below.heap_setCell _ _ _ b hb)
       have hqg:q5≠g:=fun e=>by
        have d:M8.own g (.row 5) q5:=⟨by omega,by rw[HQ5.out];rfl⟩
        have h8:=HL9.out.dis .g (.row 5) q5 e d;cases h8
       have hig:w5.heap.size≠g:=fun e=>by have d:=HG8.out.row;rw[<-e]at d;exact absurd (aB d HR8.out) (by decide)
       rw[<-hW9]at HRG HBG ⊢;have hS10:tL g q5 (A*2) w5.heap.size n9 (M8.rc 5) m1 ms W9:=⟨HRG.out.lt (x:= .g) rfl,by rw[<-HR9.out];exact HRG.out.cr,by
         have d:=HRG.out.cl (i:=5) (by omega);have h8:=HL9.out.cl (i:=5) (by omega);exact d.trans (h8.symm.trans hS9.s5),(hc9 _ _ hqg).trans hS9.x0,(hc9 _ _ hqg).trans hS9.x1,(hc9 _ _ hig).trans hS9.i0,(hc9 _ _ hig).trans hS9.i1⟩
       refine⟨hS10,dc ?_⟩;clear hS9 hS10 hc9 hqg hig hW9 I;go_wp2_with fail;go_roundg (gk-1)
       case measure=>have:=HGK.out;omega
       case rel=>exact⟨A+1,M8,M5,by have:=HGK.out;omega,by omega,by rw[<-HG9.out];exact HRG.out,by rw[HP8.out];exact HQ6.out,HN6.out,HBG.out⟩
end
end Go.Proofs.YtogcnfhmcpkdcaaGreat
