/-
Contract of Line.Join: the walk.
-/
import Derived.Test.YtogcnfhmcpkdcaaGreatLineM9
import Derived.Deep.DeepCutAuto
import Derived.WalkMore
namespace Go.Proofs.YtogcnfhmcpkdcaaGreat
open Go.RowKit
set_option linter.unusedVariables false
set_option linter.unusedSimpArgs false
theorem ze{G:World->Nat->Option Addr->Nat->Prop}{P:Prop}(F:World->Nat->Option Addr->Nat->Prop)(main:(∀U n a c,F U n a c->G U n a c)->P)(key:∀U n a c,F U n a c->G U n a c):P:=main key
def yw(base p:Nat)(E:ae×Int×Bool)(o:Option Nat)(w:World)(e:Ending)(w':World):Prop:=e= .returned (.tuple #[.int .i64 E.2.1, .bool E.2.2])/\dM base p E.1 o w w'
set_option maxRecDepth 100000 in
set_option maxHeartbeats 16000000 in
theorem vC(base p:Nat)(x:ae)(hg:x.Good)(la:Option Addr)(lc:Nat)(ms:List af)(prev term:Int)(js:List af)(ja:Option Addr)(jc:Nat)(w:World)(h:cE w base p x la lc ms)(hj:bd w w.heap.size ja js.length jc js)(hjn:js.length<=100000)
 (hne:0<js.length->∀ad,ja=some ad->ad.block≠p)(hbase:base<=w.heap.size):
  Calls Tryz.prog 82 #[.pointer (some ⟨p,0,none⟩), .int .i64 prev, .int .i64 term, .slice ja js.length jc] w (yw base p (x.join prev term (js.map af.it)) (Value.slice la ms.length lc).ownBlock w):=by
 obtain⟨i0,hi,hz0,hz1,hz2⟩:=info_parts eJ;have hpl:=h.lt;have hl:=h.len;have h1:=hg.n1;have hb0:=hg.b0;have hb1:=hg.b1;have h2:=hg.n2;have hn4:(ms.length:Int)<=4096:=by omega
 have H:=Hh h;have HJ:=Hh hj;have HNE:=Hh hne;have s:x.last=x.base+(x.l.length:Int):=rfl;obtain⟨E,hE⟩:∃E,E=x.join prev term (js.map af.it):=⟨_,rfl⟩
 rw[<-hE];by_cases hp0:prev<0
 ·have hE2:E=(x,0,false):=by rw[hE,ae.join,if_pos (.inl hp0)]
  subst hE2;have t1:decide (prev<0)=true:=by simpa using hp0
  clear hE h hj hl h1 h2 s hne;go_enter Tryz.func82,Tryz.ntmps82
  go_wp2_with fail;go_step3;go_wp2;(try rw[Exit.noGoto_ret]);go_ret2;exact⟨rfl,dM.same H.out (Below.refl _ _)⟩
 ·have t1:decide (prev<0)=false:=by simpa using hp0
  obtain⟨L,hL⟩:∃L,x.last=L:=⟨_,rfl⟩
  have HL:=Hh hL;by_cases hpl2:L<prev
  ·have t2:decide (L<prev)=true:=by simpa using hpl2
   have hE2:E=(x,0,false):=by rw[hE,ae.join,if_pos (.inr (.inl (by rw[hL];exact hpl2)))]
   subst hE2;clear hE h hj hl h1 h2 s hne hL;go_enter Tryz.func82,Tryz.ntmps82
   go_wp2_with fail;go_step3;go_wp2_with fail;refine(cC base p x hg la lc ms _ H.out).mono ?_;rintro e w1 ⟨rfl,m1,rfl⟩;rw[HL.out];go_wp2;(try rw[Exit.noGoto_ret]);go_ret2;exact⟨rfl,dM.same H.out (below_drewN _ _)⟩
  ·have t2:decide (L<prev)=false:=by simp;omega
   obtain⟨bad,R⟩:∃bad,cg js=bad:=⟨_,rfl⟩
   have aa:=Hh R;cases bad with
   | true=>
    have hE2:E=(x,0,false):=by rw[hE,ae.join,if_pos (.inr (.inr (by rw[nQ,R])))]
    subst hE2;clear hE h hj hl h1 h2 s hne hL R;go_enter Tryz.func82,Tryz.ntmps82
    go_wp2_with fail;go_step3;go_wp2_with fail;refine(cC base p x hg la lc ms _ H.out).mono ?_;rintro e w1 ⟨rfl,m1,rfl⟩;rw[HL.out];have HJ1:=Hh (HJ.out.below (below_drewN w m1) (Nat.le_refl _));go_wp2_with fail;refine(fZ js ja js.length jc _ hjn HJ1.out).mono ?_;rintro e w2 ⟨rfl,a7⟩;rw[aa.out];have V:=Hh ((below_drewN w m1).trans a7);clear a7;go_wp2;(try rw[Exit.noGoto_ret]);go_ret2;exact⟨rfl,dM.same H.out V.out⟩
   | false=>
    have hE3:E=if x.base<=prev/\x.tm prev≠term then(x,0,false) else match x.diff (prev+1) (js.map af.it) with
      | none=>(x,0,true)
      | some (i,r)=>if cL x (i-x.base-1+r.length)=true then(⟨x.base,x.term,x.l.take (i-x.base-1).toNat++r⟩,i,true) else(x,0,false):=by
     rw[hE,ae.join,if_neg (by rw[nQ,R,hL];simp;omega)];rfl
    have htg:=hg.tm_ge prev;rw[hL]at htg;by_cases I:x.base<=prev/\x.tm prev≠term
    ·rw[if_pos I]at hE3;subst hE3;have htm:bk x prev=(x.tm prev,true):=by unfold bk;rw[if_pos (htg.2 ⟨I.1,by omega⟩)]
     have t3:(x.tm prev !=term)=true:=by simpa using I.2
     have HTM:=Hh htm;clear hE h hj hl h1 h2 s hne hL R htm htg I;go_enter Tryz.func82,Tryz.ntmps82
     go_wp2_with fail;go_step3;go_wp2_with fail;refine(cC base p x hg la lc ms _ H.out).mono ?_;rintro e w1 ⟨rfl,m1,rfl⟩;rw[HL.out];have HJ1:=Hh (HJ.out.below (below_drewN w m1) (Nat.le_refl _));go_wp2_with fail;refine(fZ js ja js.length jc _ hjn HJ1.out).mono ?_;rintro e w2 ⟨rfl,a7⟩;rw[aa.out];have V:=Hh ((below_drewN w m1).trans a7);have H2:=Hh (H.out.below V.out);clear a7;go_wp2_with fail;refine(dx base p x hg la lc ms prev _ H2.out).mono ?_;rintro e w3 ⟨rfl,m3,rfl⟩;rw[HTM.out];go_wp2;(try rw[Exit.noGoto_ret]);go_ret2;exact⟨rfl,dM.same H.out (V.out.trans ((below_drewN _ m3).mono V.out.size))⟩
    ·rw[if_neg I]at hE3;obtain⟨tt,tb,htm,htb⟩:∃tt tb,bk x prev=(tt,tb)/\(tb=true->(tt !=term)=false):=by
      refine⟨(bk x prev).1,(bk x prev).2,rfl,fun j=> ?_⟩;unfold bk at j ⊢;by_cases P:0<=x.tm prev
      ·rw[if_pos P];have h11:x.tm prev=term:=by
        by_cases h12:x.tm prev=term
        ·exact h12
        ·exact absurd ⟨(htg.1 P).1,h12⟩ I
       simpa using h11
      ·rw[if_neg P]at j;cases j
     have HTM:=Hh htm;have HE3:=Hh hE3;have HI0:=Hh (show ∀W,Below w.heap.size w W->gR x prev js w p W 0 js ja jc from fun W hb=>⟨by omega,rfl,by rw[hL];omega,by simp,hj.below hb (Nat.le_refl _),hne,hb⟩);have hLb:L=x.base+(ms.length:Int):=by omega
     have HLB:=Hh hLb;have hLm:L<=1099511627776:=by omega
     have hLb0:x.base<=L:=by omega
     clear hE h hj hl h1 h2 s hne hL R htm htg I hE3 hLb;go_enter Tryz.func82,Tryz.ntmps82
     go_wp2_with fail;go_step3;go_wp2_with fail;refine(cC base p x hg la lc ms _ H.out).mono ?_;rintro e w1 ⟨rfl,m1,rfl⟩;rw[HL.out];have HJ1:=Hh (HJ.out.below (below_drewN w m1) (Nat.le_refl _));go_wp2_with fail;refine(fZ js ja js.length jc _ hjn HJ1.out).mono ?_;rintro e w2 ⟨rfl,a7⟩;rw[aa.out];have V:=Hh ((below_drewN w m1).trans a7);have H2:=Hh (H.out.below V.out);clear a7;go_wp2_with fail;refine(dx base p x hg la lc ms prev _ H2.out).mono ?_;rintro e w3 ⟨rfl,m3,rfl⟩;rw[HTM.out];have HB3:=Hh (V.out.trans ((below_drewN _ m3).mono V.out.size));go_upto_region 4 with fail
     go_cut [41] from 36 to 41 (fun s41 wx=>s41= .bool false/\wx=w2.drewN m3)
     case first=>
      cases tb
      ·go_wp2_with fail;go_meet;exact⟨rfl,rfl⟩
      ·have htb9:=htb rfl;go_wp2_with fail;go_meet;exact⟨rfl,rfl⟩
     case rest=>
      obtain⟨rfl,rfl⟩:=hcut;clear htb;go_wp2_with fail;go_step3;go_wp2_with fail;go_loopw [3,12] (fun rv av wr=>∃(k:Nat) (r:List af) (a':Option Addr) (c':Nat),rv= .slice a' r.length c'/\av= .int .i64 (prev+1+(k:Int))/\gR x prev js w p wr k r a' c')
       (fun rv _ _=>(match rv with | .slice _ n _=>n | _=>0))
      case atStart=>exact⟨0,js,ja,jc,rfl,by simp,HI0.out _ HB3.out⟩
      case round=>
       obtain⟨k,r,a',c',rfl,rfl,hI⟩:=hrel;have HI:=Hh hI;have hub:=hI.ub;rw[HL.out]at hub;have hkn:=hI.le;clear hI;have hbw:=HI.out.bel;have HLN:=Hh (H.out.below hbw);obtain⟨d0,d1,d2, -⟩:=HLN.out.cells;clear hbw d1;obtain⟨at_,hat⟩:∃at_ :Int,at_=prev+1+(k:Int):=⟨_,rfl⟩
       have hat2:at_<=L+1:=by omega
       have hat0:0<at_:=by omega
       rw[<-hat];have HAT:=Hh hat;cases r with
       | nil=>
        have hE4:E=(x,0,true):=by rw[HE3.out,HI.out.df];rfl
        subst hE4;clear hat d0 d2;go_wp2;(try rw[Exit.noGoto_ret]);go_ret2;exact⟨rfl,dM.same H.out HI.out.bel⟩
       | cons m0 r1=>
        obtain⟨b,o,ha',hb,e0,e1⟩:=HI.out.its.cell (i:=0) (m:=m0) rfl;have hmn:m0.n=m0.b.length:=((HI.out.its.bs m0 (by simp)).hlen).symm;have hm0:m0∈js:=by have j:=HI.out.hr;exact List.mem_of_mem_drop (by rw[<-j];simp)
        have hr0:=(br _).1 (nR aa.out hm0);have hmt:0<=m0.t:=hr0.1;subst ha';have k0:wr.cell? ⟨b,o,none⟩=some (.int .i64 m0.t):=by simpa using e0
        have Z:=hg.tm_ge at_;rw[HL.out]at Z;have tl:decide (0<(m0::r1).length)=true:=by simp
        obtain⟨n1,hn1⟩:∃n1,n1=(m0::r1).length:=⟨_,rfl⟩
        have hn1p:n1=r1.length+1:=by rw[hn1];simp
        have tl:decide (0<n1)=true:=by simp;omega
        rw[<-hn1];have HN1:=Hh hn1;have hr1b:r1.length+1<=100000:=by have j:=congrArg List.length HI.out.hr;simp at j;omega
        have hrun:∀w':World,(Instr.slice 30 (.slice (some ⟨b,o,none⟩) n1 c') (some (.int .i64 1)) none none).run Tryz.prog w'= .ok (.slice (if c'=1 then some ⟨b,o,none⟩ else(some (⟨b,o,none⟩:Addr)).map (·.add (1*2))) r1.length (c'-1)) w':=fun w'=>by have j:=mL Tryz.underlying30 cH (some ⟨b,o,none⟩) n1 c' .i64 1 (by omega) w';rw[show n1-1=r1.length by omega]at j;exact j
        obtain⟨sa,hsa⟩:∃sa,sa=(if c'=1 then some ⟨b,o,none⟩ else(some (⟨b,o,none⟩:Addr)).map (·.add (1*2))):=⟨_,rfl⟩
        rw[<-hsa]at hrun;have C:=Hh hsa;have HST:=Hh (show(at_<=x.base\/x.tm at_=m0.t)->gR x prev js w p wr (k+1) r1 sa (c'-1) from fun j=>by
         have P:at_<=L:=by
          rcases j with j | j
          ·omega
          ·have:=Z.1 (by omega);omega
         rw[hsa];exact HI.out.step (by rw[<-hat];exact j) (by rw[<-hat,HL.out];exact P))
        have HDF:=Hh (show ¬(at_<=x.base\/x.tm at_=m0.t)->x.diff (prev+1) (js.map af.it)=some (at_,(m0::r1).map af.it) from fun j=>by rw[HI.out.df,<-hat];exact ae.diff_stop (by simp) (by simpa using j))
        clear hat e0 e1 hr0 hsa hn1 hmn;by_cases X:at_<=x.base
        ·have tA:decide (at_<=x.base)=true:=by simpa using X
         have HST2:=Hh (HST.out (.inl X));obtain⟨tt2,ab,a0⟩:∃tt2 ab,bk x at_=(tt2,ab):=⟨_,_,rfl⟩
         have HT2:=Hh a0;clear X Z a0;go_wp2_with fail;refine(dx base p x hg la lc ms at_ _ HLN.out).mono ?_;rintro e w4 ⟨rfl,m4,rfl⟩;rw[HT2.out];have HST4:=Hh (HST2.out.below (below_drewN wr m4));go_wp2_with fail;go_quiet (fail)
         go_wp2;refine⟨⟨k+1,r1,_,_,rfl,congrArg (Value.int .i64) (by rw[HAT.out];omega),?_⟩,by show r1.length<n1;omega⟩;have j:=HST4.out.below (below_drewN _ nq);rw[show sa=(if c'=1 then some ⟨b,o,none⟩ else some ⟨b,o+2,none⟩) from by rw[C.out];split<;>simp[Addr.add_lit]]at j;exact j
        ·have tA:decide (at_<=x.base)=false:=by simpa using X
         by_cases hB:x.tm at_=m0.t
         ·have HST2:=Hh (HST.out (.inr hB));have a0:bk x at_=(m0.t,true):=by unfold bk;rw[hB,if_pos hmt]
          have HT2:=Hh a0;clear X Z a0 hB;go_wp2_with fail;refine(dx base p x hg la lc ms at_ _ HLN.out).mono ?_;rintro e w4 ⟨rfl,m4,rfl⟩;rw[HT2.out];have HST4:=Hh (HST2.out.below (below_drewN wr m4));go_wp2_with fail;go_quiet (fail)
          go_wp2;refine⟨⟨k+1,r1,_,_,rfl,congrArg (Value.int .i64) (by rw[HAT.out];omega),?_⟩,by show r1.length<n1;omega⟩;have j:=HST4.out.below (below_drewN _ nq);rw[show sa=(if c'=1 then some ⟨b,o,none⟩ else some ⟨b,o+2,none⟩) from by rw[C.out];split<;>simp[Addr.add_lit]]at j;exact j
         ·have HD2:=Hh (HDF.out (by omega));obtain⟨tt2,ab,a0,htb2⟩:∃tt2 ab,bk x at_=(tt2,ab)/\(ab=true->(tt2==m0.t)=false):=by
           refine⟨(bk x at_).1,(bk x at_).2,rfl,fun j=> ?_⟩;unfold bk at j ⊢;by_cases P:0<=x.tm at_
           ·rw[if_pos P];simpa using hB
           ·rw[if_neg P]at j;cases j
          have HT2:=Hh a0;have hatb:x.base<at_:=by omega
          clear X Z a0 hB;go_wp2_with fail;refine(dx base p x hg la lc ms at_ _ HLN.out).mono ?_;rintro e w4 ⟨rfl,m4,rfl⟩;rw[HT2.out];have HI4:=Hh (HI.out.below (below_drewN wr m4));have HLN4:=Hh (HLN.out.drewN m4);clear hrun;obtain⟨F,hkp⟩:∃F:Nat,(F:Int)=at_-x.base-1:=⟨(at_-x.base-1).toNat,by omega⟩
          have hlb9:=HLB.out;have hkm:F<=ms.length:=by omega
          have hlc:=HLN4.out.sl.sl.hle;have hrunu:∀w':World,(Instr.slice 30 (.slice la ms.length lc) none (some (.int .i64 (at_-x.base-1))) none).run Tryz.prog w'= .ok (.slice la F lc) w':=fun w'=>by have j:=mK Tryz.underlying30 cH la ms.length lc .i64 F (by omega) w';rw[hkp]at j;exact j
          obtain⟨f,hf⟩:∃f,cL x (at_-x.base-1+((r1.length:Int)+1))=f:=⟨_,rfl⟩
          have HFB:=Hh hf;have HKP:=Hh hkp;have HE4:=Hh (show E=if cL x (at_-x.base-1+((r1.length:Int)+1))=true then(⟨x.base,x.term,x.l.take F++(m0::r1).map af.it⟩,at_,true) else(x,0,false) by rw[HE3.out,HD2.out];simp only[List.length_map,List.length_cons];rw[show(at_-x.base-1).toNat=F by omega];push_cast;rfl)
          clear hf hkp hlb9;go_upto_region 10 with fail
          go_cut [57] from 57 to 74 (fun s57 wx=>s57= .bool false/\wx=wr.drewN m4)
          case first=>
           cases ab
           ·go_wp2_with fail;go_meet;exact⟨rfl,rfl⟩
           ·have htb3:=htb2 rfl;go_wp2_with fail;go_meet;exact⟨rfl,rfl⟩
          case rest=>
           obtain⟨rfl,rfl⟩:=hcut;clear htb2;go_wp2_with fail;refine(kl base p x hb0 hb1 la lc ms _ _ HLN4.out).mono ?_;rintro e w5 ⟨rfl,rfl⟩;rw[HFB.out];cases f with
           | false=>
            have hE5:E=(x,0,false):=by rw[HE4.out,HFB.out];rfl
            subst hE5;clear d0 d2 hrunu;go_wp2;(try rw[Exit.noGoto_ret]);go_ret2;exact⟨rfl,dM.same H.out HI4.out.bel⟩
           | true=>
            have hE5:E=(⟨x.base,x.term,x.l.take F++(m0::r1).map af.it⟩,at_,true):=by rw[HE4.out,HFB.out];rfl
            subst hE5;have hsl6:=HLN4.out.sl.sl.upto (k:=F) (m:=lc) hkm (by omega) (Nat.le_refl _);rw[iu]at hsl6;have HSL6:=Hh hsl6;have a9:=Hh HI4.out.bel;have a1:=HI4.out.bel.size;clear hsl6;go_wp2_with fail;refine(jL (aK (ms.take F)) (jN _) la F lc (by omega) _ HSL6.out).mono ?_;rintro e w6 ⟨a6,c6,rfl,T,a5⟩;have hs6:(wr.drewN m4).heap.size<=w6.heap.size:=a5.size;have hs6':wr.heap.size<=w6.heap.size:=hs6;have a8:=Hh (HLN4.out.below a5);have hne6:(Value.slice a6 F c6).ownBlock≠some p:=fun e=>by have j:(wr.drewN m4).heap.size<=p:=(own_lt T e).1;have P:(wr.drewN m4).heap.size=wr.heap.size:=rfl;have h11:w.heap.size<=wr.heap.size:=a1;omega
            obtain⟨hln7,hot7⟩:=a8.out.put (n6:=F) (ms6:=ms.take F) (by simp;omega) (World.ownsRow.mono T (show base<=(wr.drewN m4).heap.size by have h11:w.heap.size<=(wr.drewN m4).heap.size:=a1;omega)) hne6 (fun m hm=>a8.out.bs m (List.mem_of_mem_take hm))
            have hp6:w6.cell? ⟨p,2,none⟩=some (.slice la ms.length lc):=a8.out.cells.2.2.1;have hf6:w6.frozen? ⟨p,2,none⟩=false:=a8.out.cells.2.2.2 2;have HTU7:=Hh (show cJ p none w (w6.setCell ⟨p,2,none⟩ (.slice a6 F c6)) from⟨a5.os.trans a9.out.os,a5.tape.trans a9.out.tape,a5.output.trans a9.out.output,by simp;have:=a9.out.size;omega,fun k9 h8 j _=>(hot7 k9 j).trans ((a5.block k9 (Nat.lt_of_lt_of_le h8 a1)).trans (a9.out.block k9 h8))⟩);have HF0:=Hh (show nY x F (m0::r1) w base p (some ⟨b,o,none⟩) c' (w6.setCell ⟨p,2,none⟩ (.slice a6 F c6)) 0 a6 c6 (ms.take F) from by
             refine⟨by omega,?_,HTU7.out,fun g hg9=> ?_,?_⟩
             ·rw[List.take_zero,List.map_nil,List.append_nil];have j:=hln7;rw[List.map_take,H.out.its]at j;exact j
             ·rw[show(ms.take F).length=F by simp;omega]at hg9;have j:(wr.drewN m4).heap.size<=g:=(own_lt T hg9).1;have h11:w.heap.size<=(wr.drewN m4).heap.size:=a1;omega
             ·have j:=HI4.out.its.below (a5.mono (show w.heap.size<=(wr.drewN m4).heap.size from a1)) (Nat.le_refl _);exact j.turned (fun k9 h8 hk9=>hot7 k9 hk9) (HI4.out.ne (by simp)) (fun z e=>by cases e) a8.out.row)
            clear hln7 hot7 T a5 hne6 d0 d2 hrunu k0;go_wp2_with fail;obtain⟨wo,rfl⟩:∃wo:World,wo=wr:=⟨_,rfl⟩
            go_loopw [104] (fun iv wr=>∃(i:Nat) (M:Option Addr) (J:Nat) (q:List af),iv= .int .i64 i/\nY x F (m0::r1) w base p (some ⟨b,o,none⟩) c' wr i M J q) (fun iv _=>r1.length+1-(intOf iv).toNat)
            case atStart=>exact⟨0,a6,c6,ms.take F,rfl,HF0.out⟩
            case round=>
             obtain⟨i,M,J,q,rfl,hI2⟩:=hrel;have D:=Hh hI2;have hile:=hI2.le;simp only[List.length_cons]at hile;have hwr:=hI2.tu.size;have hpy:=hI2.ln.lt;have hms2:q.length<=200000:=by have j:=hI2.ln.len;simp only[List.length_append,List.length_map]at j;have P:=List.length_take_le F x.l;have h11:=List.length_take_le i (m0::r1);omega
             clear hI2;by_cases hlt:i<r1.length+1
             ·obtain⟨d,hmi⟩:∃d,(m0::r1)[i]? =some d:=⟨_,List.getElem?_eq_getElem (by simpa using hlt)⟩
              obtain⟨b9,o9,e9,hb9,k0,k1⟩:=D.out.its.cell hmi;injection e9 with e9;injection e9 with e9 e10 _;subst e9;subst e10;have hmem:d∈m0::r1:=List.mem_of_getElem? hmi;have hbs9:=D.out.its.bs d hmem;have hmn:d.n=d.b.length:=hbs9.hlen.symm;have hmj:d∈js:=by have j:=HI4.out.hr;exact List.mem_of_mem_drop (by rw[<-j];exact hmem)
              have hbl:d.b.length<=8192:=((br _).1 (nR aa.out hmj)).2.2;rw[hmn]at k1;have c0:wr.cell? ⟨b,o+i*2,none⟩=some (.int .i64 d.t):=k0;have c1:wr.cell? ⟨b,o+i*2+1,none⟩=some (.slice d.a d.b.length d.c):=k1;have HBS9:=Hh (show aM wr wr.heap.size d.a d.b.length d.c d.b by rw[<-hmn];exact hbs9.mono hwr);have HMI:=Hh hmi;have hi0:(0:Int)<=(i:Int):=by omega
              have hi1:(i:Int)<(r1.length:Int)+1:=by omega
              clear k0 k1 hmi hbs9 hmn hmem hmj;go_wp2;obtain⟨Y,hY⟩:∃Y,Y=wr.alloc (.cells #[.int .i64 d.t, .slice d.a d.b.length d.c] 40):=⟨_,rfl⟩
              rw[<-hY];have hbY:Below wr.heap.size wr Y:=by rw[hY];exact(Below.refl _ _).alloc (Nat.le_refl _) _
              have hsY:Y.heap.size=wr.heap.size+1:=by rw[hY];simp
              have HS:=Hh (show iY wr.heap.size d.t d.a d.b.length d.c Y from⟨by rw[hY];simp[go_sem],by rw[hY];simp[go_sem]⟩);have HBY:=Hh hbY;have HLNY:=Hh (D.out.ln.below hbY);have C2:=Hh HLNY.out.cells.2.2.1;have p2y:=C2.out;have HBS:=Hh ((HBS9.out.below hbY (Nat.le_refl _)).mono (show wr.heap.size<=Y.heap.size by omega));clear hY hbY c0 c1;refine fx (S:=iY (wr.heap.size) d.t d.a d.b.length d.c) ?_;have hS0:iY (wr.heap.size) d.t d.a d.b.length d.c Y.drew:=HS.out.keep (N:=Y.heap.size) (Below.refl _ _).drew (by omega);refine hT 0 108 hS0 ?_;refine hT 1 109 hS0 ?_;refine hT 2 110 hS0 ?_;refine hT 3 111 hS0 ?_;refine hT 5 113 hS0 ?_;have HS0:=Hh hS0;clear hS0;apply ze (fun A nb U c3=>iY wr.heap.size d.t d.a d.b.length d.c A/\Below Y.heap.size Y A/\SlAt A (nb+1) 2 (some ⟨nb,0,none⟩) 1 1 [.int .i64 d.t, .slice U d.b.length c3]/\OwnBs 5 A ⟨d.t,U,d.b.length,c3,d.b⟩/\A.heap.size=nb+1)
              ·intro hway;refine nU 4 6 ?_ ?_;rotate_left
               ·go_simp;refine(fA d.t d.a d.c d.b Y.drew (HBS.out.below (w':=Y.drew) (Below.refl _ _).drew (Nat.le_refl _))).mono ?_;rintro e B ⟨U,c3,rfl,G,hb3⟩;have hs3:Y.heap.size<=B.heap.size:=hb3.size;have y:Below Y.heap.size Y B:=(Below.refl _ Y).drew.trans hb3;have HS3:=Hh (HS.out.keep y (by omega));have p2w:B.cell? ⟨p,2,none⟩=some (.slice M q.length J):=(y.cell (p:=⟨p,2,none⟩) (by show p<_;omega)).trans C2.out;obtain⟨A,X⟩:∃A,A=B.alloc (.cells #[.int .i64 d.t, .slice U d.b.length c3] 40):=⟨_,rfl⟩
                have O:Below B.heap.size B A:=by rw[X];exact(Below.refl _ _).alloc (Nat.le_refl _) _
                have hsA:A.heap.size=B.heap.size+1:=by rw[X];simp
                have C:=Hh (HS3.out.keep O (by omega));have p2A:A.cell? ⟨p,2,none⟩=some (.slice M q.length J):=(O.cell (p:=⟨p,2,none⟩) (by show p<_;omega)).trans p2w;have hF:=And.intro C.out (And.intro (y.trans (O.mono hs3)) (And.intro (show SlAt A (B.heap.size+1) 2 (some ⟨B.heap.size,0,none⟩) 1 1 [.int .i64 d.t, .slice U d.b.length c3] by rw[X];exact cw B #[.int .i64 d.t, .slice U d.b.length c3] 40 2 rfl) (And.intro ((show OwnBs 5 B ⟨d.t,U,d.b.length,c3,d.b⟩ from OwnBs.of_own G (by omega)).below O) hsA)));have HF:=Hh hF;have HA:=Hh X;clear hb3 y G hF X O hsA;refine⟨HS3.out,?_⟩;refine nU 4 7 ?_ ?_
                ·go_simp;refine⟨HS3.out,?_⟩;refine bp 7 ?_;go_simp;rw[<-HA.out];refine⟨C.out,?_⟩;have hF:=HF.out;generalize B.heap.size=nb at hF ⊢;exact hway A nb U c3 hF
                ·go_simp;rw[<-HA.out];refine⟨C.out,?_⟩;refine bp 4 ?_;go_simp;refine⟨C.out,?_⟩;have hF:=HF.out;generalize B.heap.size=nb at hF ⊢;exact hway A nb U c3 hF
               ·go_simp;refine⟨HS0.out,?_⟩;refine bp 6 ?_;go_simp;refine(fA d.t d.a d.c d.b Y.drew (HBS.out.below (w':=Y.drew) (Below.refl _ _).drew (Nat.le_refl _))).mono ?_;rintro e B ⟨U,c3,rfl,G,hb3⟩;have hs3:Y.heap.size<=B.heap.size:=hb3.size;have y:Below Y.heap.size Y B:=(Below.refl _ Y).drew.trans hb3;obtain⟨A,X⟩:∃A,A=B.alloc (.cells #[.int .i64 d.t, .slice U d.b.length c3] 40):=⟨_,rfl⟩
                have O:Below B.heap.size B A:=by rw[X];exact(Below.refl _ _).alloc (Nat.le_refl _) _
                have hsA:A.heap.size=B.heap.size+1:=by rw[X];simp
                have C:=Hh ((HS.out.keep y (by omega)).keep O (by omega));have HS3:=Hh (HS.out.keep y (by omega));have hF:=And.intro C.out (And.intro (y.trans (O.mono hs3)) (And.intro (show SlAt A (B.heap.size+1) 2 (some ⟨B.heap.size,0,none⟩) 1 1 [.int .i64 d.t, .slice U d.b.length c3] by rw[X];exact cw B #[.int .i64 d.t, .slice U d.b.length c3] 40 2 rfl) (And.intro ((show OwnBs 5 B ⟨d.t,U,d.b.length,c3,d.b⟩ from OwnBs.of_own G (by omega)).below O) hsA)));have HF:=Hh hF;have HA:=Hh X;clear hb3 y G hF X O hsA;refine⟨HS3.out,?_⟩;refine bp 7 ?_;go_simp;rw[<-HA.out];refine⟨C.out,?_⟩;have hF:=HF.out;generalize B.heap.size=nb at hF ⊢;exact hway A nb U c3 hF
              rintro A nb U c3 ⟨hS1,a2,hslA,hmA,hsA⟩;have C:=Hh hS1;have HBYA:=Hh a2;have HSL:=Hh hslA;have HMA:=Hh hmA;have hs3:=a2.size;have HLA3:=Hh (HLNY.out.below a2);have p2A:A.cell? ⟨p,2,none⟩=some (.slice M q.length J):=(a2.cell (p:=⟨p,2,none⟩) (by show p<_;omega)).trans C2.out;clear hS1 a2 hslA hmA;refine bp 8 ?_;refine aS A (.tmp 112) (.tmp 115) 30 rfl base 40 i0 (.agg #[.int .i64 0, .slice none 0 0]) 2 32 Tryz.underlying30 hi hz0 hz1 hz2 rfl (by decide) (.slice M q.length J) q.length (aK q) rfl HLA3.out.own (nb+1) (some ⟨nb,0,none⟩) 1 1 [.int .i64 d.t, .slice U d.b.length c3] rfl HSL.out (by intro u hu;simp at hu;rcases hu with rfl | rfl<;>rfl) (by unfold maxLen;omega) (by omega) (by omega) ?_;intro a4 c4 y4 hown4 v hat4;have hnp:(Value.slice M q.length J).ownBlock≠some p:=HLNY.out.far cV.1;have hng:(Value.slice M q.length J).ownBlock≠some wr.heap.size:=fun e=>by have j:=(own_lt D.out.ln.own e).2;omega
              have HS4:=Hh (C.out.far v (by omega) hng);have p2d:y4.cell? ⟨p,2,none⟩=some (.slice M q.length J):=(v.cell_far ⟨p,2,none⟩ (by show p<_;omega) (fun e=>hnp e.symm)).trans p2A;have f2d:y4.frozen? ⟨p,2,none⟩=false:=(v.frozen_far ⟨p,2,none⟩ (by show p<_;omega) (fun e=>hnp e.symm)).trans (HLA3.out.cells.2.2.2 2);obtain⟨hln,htu⟩:=HLA3.out.append (m:=⟨d.t,U,d.b.length,c3,d.b⟩) HMA.out hown4 v hat4;have HLN9:=Hh hln;have HTU9:=Hh (cJ.ofBelowThen HBYA.out htu);have HAT9:=Hh hat4;refine⟨HS4.out,?_⟩;clear hown4 v hat4 hln htu hnp hng;refine hT 9 117 HS4.out ?_;refine hT 10 118 HS4.out ?_;refine bp 11 ?_;refine aj 30 (.tmp 118) (.tmp 116) rfl p 2 (.slice a4 (q.length+1) c4) _ rfl rfl rfl eI p2d f2d ?_;refine⟨HS4.out.set (by omega) _,dc ?_⟩;clear p2d f2d p2A;have HFN:=Hh (D.out.next (mx:=⟨d.t,U,d.b.length,c3,d.b⟩) HMI.out (cJ.ofBelowThen HBY.out HTU9.out) HLN9.out (show w.heap.size<=A.heap.size by omega) hwr HAT9.out (HI4.out.ne (by simp)));go_wp2;go_roundw
              case rel=>exact⟨i+1,a4,c4,_,by go_num,HFN.out⟩
              case measure=>simp[intOf];omega
             ·have hi9:i=r1.length+1:=by omega
              subst hi9;have hln9:=D.out.ln;rw[show(m0::r1).take (r1.length+1)=m0::r1 from List.take_of_length_le (by simp)]at hln9;have HLN9:=Hh hln9;clear hln9;go_wp2;(try rw[Exit.noGoto_ret]);go_ret2;exact⟨rfl,M,J,q,HLN9.out,⟨D.out.tu.os,D.out.tu.tape,D.out.tu.output,D.out.tu.size,fun k8 h8 j _=>D.out.tu.block k8 h8 j (by simp)⟩,fun g hg9=> .inr (D.out.nw g hg9)⟩
end Go.Proofs.YtogcnfhmcpkdcaaGreat
