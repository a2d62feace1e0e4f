/-
Contract of the closure of line.Read.
-/
import Derived.Test.YtogcnfhmcpkdcaaGreatLine2
import Derived.Test.YtogcnfhmcpkdcaaGreatReadM
import Derived.Test.YtogcnfhmcpkdcaaGreatFieldM
set_option maxRecDepth 100000
set_option maxHeartbeats 1000000
namespace Go.Proofs.YtogcnfhmcpkdcaaGreat
open Go.RowKit
set_option linter.unusedVariables false
set_option linter.unusedSimpArgs false
structure kC (N lb:Nat) (W:World) (v:ae) (la:Option Addr) (lc:Nat) (ms:List af):Prop where
 row:W.heap[lb]? =some (.cells #[.int .i64 v.base, .int .i64 v.term, .slice la ms.length lc] 105 (0,0))
 own:W.ownsRow N 40 2 (.slice la ms.length lc) ms.length (aK ms)
 its:ms.map af.it=v.l
 bs:∀m∈ms,m.n<=8192/\W.ownsRow N 5 1 (.slice m.a m.n m.c) m.n (m.b.map bv)
theorem kC.moved{N lb:Nat}{W W':World}{v:ae}{la:Option Addr}{lc:Nat}{ms:List af}(h:kC N lb W v la lc ms)(hlb:W'.heap[lb]? =W.heap[lb]?)(hk:∀k,N<=k->k<W.heap.size->W'.heap[k]? =W.heap[k]?):kC N lb W' v la lc ms:=⟨hlb.trans h.row,ec h.own fun g cur a _=>hk g (own_lt h.own a).1 (own_lt h.own a).2,h.its,fun m b=>⟨(h.bs m b).1,ec (h.bs m b).2 fun g cur a _=>hk g (own_lt (h.bs m b).2 a).1 (own_lt (h.bs m b).2 a).2⟩⟩
theorem kC.lnAt{N lb:Nat}{W:World}{v:ae}{la:Option Addr}{lc:Nat}{ms:List af}(h:kC N lb W v la lc ms)(hN:lb<=N):cE W lb lb v la lc ms:=
 ⟨h.row,World.ownsRow.mono h.own hN,h.its,fun m a=>by obtain⟨c,b⟩:=h.bs m a;exact OwnBs.of_own (t:=m.t) b (by omega),Nat.le_refl _⟩
structure Cl (w:World) (q lb pl:Nat) (W:World) (r:List UInt8) (v:ae) (la:Option Addr) (lc:Nat) (ms:List af):Prop where
 os:W.os=w.os
 tape:W.tape=w.tape
 output:W.output=w.output
 size:w.heap.size<=W.heap.size
 blk:∀k,k<w.heap.size->k≠q->k≠lb->W.heap[k]? =w.heap[k]?
 eye:bF W q r
 ln:kC w.heap.size lb W v la lc ms
structure nS (w:World) (q lb pl:Nat):Prop where
 hq:q<w.heap.size
 hlb:lb<w.heap.size
 hpl:pl<w.heap.size
 lq:lb≠q
 pq:pl≠q
 pb:pl≠lb
 cell:w.cell? ⟨pl,0,none⟩=some (.pointer (some ⟨lb,0,none⟩))
section
variable {w : World} {q lb pl : Nat} {W : World} {r : List UInt8} {v : ae} {la : Option Addr} {lc : Nat} {ms : List af}
theorem Cl.cell(h:Cl w q lb pl W r v la lc ms)(hw:nS w q lb pl):W.cell? ⟨pl,0,none⟩=some (.pointer (some ⟨lb,0,none⟩)):=(World.cell?_of_block (a:=⟨pl,0,none⟩) (h.blk pl hw.hpl hw.pq hw.pb)).trans hw.cell
theorem Cl.but(h:Cl w q lb pl W r v la lc ms)(hw:nS w q lb pl){W':World}(a:fV q W W'){r':List UInt8}(he:bF W' q r'):Cl w q lb pl W' r' v la lc ms:=by have g:=hw.hq;have f:=hw.hlb;have e:=h.size;exact⟨a.os.trans h.os,a.tape.trans h.tape,a.output.trans h.output,Nat.le_trans h.size a.size,fun k d b c=>(a.block k (by omega) b).trans (h.blk k d b c),he,h.ln.moved (a.block lb (by omega) hw.lq) fun k hN d=>a.block k d (by omega)⟩
theorem Cl.below(h:Cl w q lb pl W r v la lc ms)(hw:nS w q lb pl){W':World}(a:Below W.heap.size W W'):Cl w q lb pl W' r v la lc ms:=h.but hw (fV.ofBelow (Nat.lt_of_lt_of_le hw.hq h.size) a) (h.eye.below a)
theorem Cl.turn(h:Cl w q lb pl W r v la lc ms)(hw:nS w q lb pl){W':World}(e:W'.os=W.os)(tape:W'.tape=W.tape)(output:W'.output=W.output)(size:W.heap.size<=W'.heap.size)(hk:∀k,k<w.heap.size->k≠lb->W'.heap[k]? =W.heap[k]?)
 (f:bF W' q r){v':ae}{b:Option Addr}{a:Nat}{ms':List af}(g:kC w.heap.size lb W' v' b a ms'):Cl w q lb pl W' r v' b a ms':=
 ⟨e.trans h.os,tape.trans h.tape,output.trans h.output,Nat.le_trans h.size size,fun k d i c=>(hk k d c).trans (h.blk k d i c),f,g⟩
theorem Cl.err(h:Cl w q lb pl W r v la lc ms)(hw:nS w q lb pl){W':World}(b:fV q W W'){x:Int}{α:Type}{is:α->Prop}:fw q lb (.err x:bO α) w W' (bK x) is:=by have f:=hw.hq;have e:=h.size;exact .of_err (b.os.trans h.os) (b.tape.trans h.tape) (b.output.trans h.output) (Nat.le_trans h.size b.size) fun k d a c=>(b.block k (by omega) a).trans (h.blk k d a c)
theorem Cl.lcells(h:Cl w q lb pl W r v la lc ms):W.cell? ⟨lb,0,none⟩=some (.int .i64 v.base)/\W.cell? ⟨lb,1,none⟩=some (.int .i64 v.term)/\W.cell? ⟨lb,2,none⟩=some (.slice la ms.length lc)/\∀o,W.frozen? ⟨lb,o,none⟩=false:=⟨cell_of_row W lb 0 _ _ _ h.ln.row,cell_of_row W lb 1 _ _ _ h.ln.row,cell_of_row W lb 2 _ _ _ h.ln.row,fun o=>frozen_of_row _ _ _ _ _ h.ln.row⟩
end
theorem bF.far{W W':World}{q:Nat}{r:List UInt8}(h:bF W q r){g:Nat}(hs:W.heap.size<=W'.heap.size)(hk:∀k,k<W.heap.size->k≠g->W'.heap[k]? =W.heap[k]?)(hgq:g≠q)
 {i j:Int}{a:Option Addr}{n c:Nat}{T:TypeId}(l:W.heap[g]? =some (.cells #[.int .i64 i, .int .i64 j, .slice a n c] T (0,0))):bF W' q r:=by
 obtain⟨m,a,n,c,A,y,f⟩:=h;have s:=hk q m (fun e=>hgq e.symm);refine⟨by omega,a,n,c,(World.cell?_of_block (a:=⟨q,0,none⟩) s).trans A,(World.frozen?_of_block (a:=⟨q,0,none⟩) s).trans y,f.hlen,f.hle,f.hmax,f.hnil,f.hbig,fun t=> ?_⟩;obtain⟨b,o,e,x,v⟩:=f.hat t;have p:b≠g:=by
  intro B;have d:=v 0 t;rw[B,cell_of_row _ _ _ _ _ _ l]at d;cases hr0:r with
  | nil=>rw[hr0]at f;have:=f.hlen;simp at this;omega
  | cons z r1=>
   rw[hr0]at d
   match o,d with
   | 0,d=>simp[bv]at d
   | 1,d=>simp[bv]at d
   | 2,d=>simp[bv]at d
   | k+3,d=>simp at d
 exact⟨b,o,e,x,fun i w=>(World.cell?_of_block (a:=⟨b,o+i,none⟩) (hk b (by omega) p)).trans (v i w)⟩
theorem infoInt1:(Tryz.prog.info? 3).map (·.size)=some 1:=by kernel_rfl
structure yp (pl lb bx:Nat) (z:Nat) (v:Value) (W:World):Prop where
 g0:W.cell? ⟨pl,0,none⟩=some (.pointer (some ⟨lb,0,none⟩))
 k0:W.cell? ⟨bx,0,none⟩=some (.int .i64 z)
 k1:W.cell? ⟨bx,1,none⟩=some v
theorem yp.keep{pl lb a:Nat}{z:Nat}{v:Value}{W W':World}(h:yp pl lb a z v W){N:Nat}(b:Below N W W')(h1:pl<N)(h3:a<N):yp pl lb a z v W':=⟨(b.cell (p:=⟨pl,_,none⟩) h1).trans h.g0,(b.cell (p:=⟨a,_,none⟩) h3).trans h.k0,(b.cell (p:=⟨a,_,none⟩) h3).trans h.k1⟩
theorem zf{a:Type}{G:a->Prop}{P:Prop}(F:a->Prop)(main:(∀x1,F x1->G x1)->P)(key:∀x1,F x1->G x1):P:=main key
structure yE (pl lb:Nat) (W:World):Prop where
 g0:W.cell? ⟨pl,0,none⟩=some (.pointer (some ⟨lb,0,none⟩))
theorem Cl.rebase{w:World}{q lb pl:Nat}{W:World}{r:List UInt8}{v:ae}{la:Option Addr}{lc:Nat}{ms:List af}(h:Cl w q lb pl W r v la lc ms)(hw:nS w q lb pl)(b t:Int):
  Cl w q lb pl ((W.setCell ⟨lb,0,none⟩ (.int .i64 b)).setCell ⟨lb,1,none⟩ (.int .i64 t)) r ⟨b,t,v.l⟩ la lc ms:=by
 have a:∀k,k≠lb->((W.setCell ⟨lb,0,none⟩ (.int .i64 b)).setCell ⟨lb,1,none⟩ (.int .i64 t)).heap[k]? =W.heap[k]? :=fun k c=>(Below.heap_setCell _ _ _ k c).trans (Below.heap_setCell _ _ _ k c)
 have i:=heap_setCell_same W lb 0 _ _ (.int .i64 b) h.ln.row;have f:=heap_setCell_same _ lb 1 _ _ (.int .i64 t) i;have j:=h.size;have n:=hw.hlb;refine h.turn (W':=(W.setCell ⟨lb,0,none⟩ (.int .i64 b)).setCell ⟨lb,1,none⟩ (.int .i64 t)) hw rfl rfl rfl (by simp) (fun k _ c=>a k c) (h.eye.far (by simp) (fun k _ c=>a k c) hw.lq h.ln.row) ⟨by rw[f];rfl,ec h.ln.own fun g cur e _=>a g ?_,h.ln.its,fun m d=>⟨(h.ln.bs m d).1,ec (h.ln.bs m d).2 fun g cur e _=>a g ?_⟩⟩
 ·have:=(own_lt h.ln.own e).1;omega
 ·have:=(own_lt (h.ln.bs m d).2 e).1;omega
theorem ur(q lb pl:Nat)(l:List UInt8)(w:World)(h:bF w q l)(hw:nS w q lb pl)(hlb:w.heap[lb]? =some (.cells #[.int .i64 0, .int .i64 0, .slice none 0 0] 105 (0,0))):
  Calls Tryz.prog 117 #[.pointer (some ⟨q,0,none⟩), .pointer (some ⟨pl,0,none⟩)] w fun e w'=>fw q lb (cx l) w w' e (fun v=>∃la lc ms,kC w.heap.size lb w' v la lc ms):=by
 obtain⟨i0,hi,hz0,hz1,hz2⟩:=info_parts eJ;obtain⟨N,hN⟩:∃N,N=cx l:=⟨_,rfl⟩
 rw[<-hN];have HN0:=Hh hN;have HC0:=Hh (show Cl w q lb pl w l ⟨0,0,[]⟩ none 0 [] from⟨rfl,rfl,rfl,Nat.le_refl _,fun _ _ _ _=>rfl,h,⟨hlb,⟨rfl, .inl ⟨rfl,rfl⟩⟩,rfl,by simp⟩⟩);have hq:=hw.hq;have hl:=hw.hlb;have hlq:=hw.lq;have G:=Hh hw;clear hN h hlb hw;go_enter Tryz.func117,Tryz.ntmps117
 go_wp2_with fail;refine fx (S:=yE pl lb) ?_;have hdr:Below w.heap.size w w.drew:=(Below.refl _ _).drew;have HC1:=Hh (HC0.out.below G.out hdr);have hS1:yE pl lb w.drew:=⟨HC1.out.cell G.out⟩
 clear hdr;refine hT 0 4 hS1 ?_;refine hT 1 5 hS1 ?_;refine hT 2 6 hS1 ?_;refine hT 5 9 hS1 ?_;clear hS1;refine bp 3 ?_;go_simp;refine(dK q 1099511627776 _ _ HC1.out.eye).mono ?_;rintro e w1 ⟨hb1,hr1⟩;cases hg1:ak 1099511627776 l with
 | err x=>
  rw[hg1]at hr1;obtain rfl:e=bK x:=hr1;have hN:N= .err x:=by rw[HN0.out,cx,hg1];rfl
  subst hN;have HB:=Hh hb1;clear hg1 hb1;go_wp2;exact⟨rfl,HC1.out.err G.out HB.out⟩
 | ok b r1=>
  rw[hg1]at hr1;obtain⟨rfl,heye1⟩:=hr1;have hb9:=az hg1;have wb:IntKind.i64.wrap (b:Int)=b:=IntWalk.i64_in _ (by omega);have hN:N=(ak 1099511627776 r1).bind fun t r2=>(ak 4096 r2).bind fun n r3=>(aJ n r3).bind fun l r4=> .ok ⟨b,t,l⟩ r4:=by rw[HN0.out,cx,hg1];rfl
  have HN1:=Hh hN;have HC2:=Hh (HC1.out.but G.out hb1 heye1);have hS2:yE pl lb w1:=⟨HC2.out.cell G.out⟩
  refine⟨hS2,?_⟩;clear hN hg1 hb1 heye1;refine hT 4 8 hS2 ?_;clear hS2;refine bp 6 ?_;go_simp;refine(dK q 1099511627776 _ _ HC2.out.eye).mono ?_;rintro e w2 ⟨hb2,hr2⟩;cases hg2:ak 1099511627776 r1 with
  | err x=>
   rw[hg2]at hr2;obtain rfl:e=bK x:=hr2;have hN:N= .err x:=by rw[HN1.out,hg2];rfl
   subst hN;have HB:=Hh hb2;clear hg2 hb2;go_wp2;exact⟨rfl,HC2.out.err G.out HB.out⟩
  | ok t r2=>
   rw[hg2]at hr2;obtain⟨rfl,heye2⟩:=hr2;have ht9:=az hg2;have wt:IntKind.i64.wrap (t:Int)=t:=IntWalk.i64_in _ (by omega);have hN:N=(ak 4096 r2).bind fun n r3=>(aJ n r3).bind fun l r4=> .ok ⟨b,t,l⟩ r4:=by rw[HN1.out,hg2];rfl
   have HN2:=Hh hN;have HC3:=Hh (HC2.out.but G.out hb2 heye2);have hS3:yE pl lb w2:=⟨HC3.out.cell G.out⟩
   refine⟨hS3,?_⟩;clear hN hg2 hb2 heye2;refine hT 7 11 hS3 ?_;refine hT 8 12 hS3 ?_;refine hT 9 13 hS3 ?_;have p0:=HC3.out.lcells.1;have f0:=HC3.out.lcells.2.2.2 0;refine bp 10 ?_;refine aj 3 (.tmp 13) (.tmp 8) rfl lb 0 (.int .i64 b) _ rfl rfl rfl infoInt1 p0 f0 ?_;have hS4:yE pl lb (w2.setCell ⟨lb,0,none⟩ (.int .i64 b)):=⟨(World.cell?_setCell_other _ _ _ _ (by intro e;injection e with e1;first | exact G.out.pb e1 | exact G.out.pb e1.symm)).trans hS3.g0⟩
   refine⟨hS4,?_⟩;clear hS3;go_simp;refine hT 11 14 hS4 ?_;refine hT 12 15 hS4 ?_;have p1:(w2.setCell ⟨lb,0,none⟩ (.int .i64 b)).cell? ⟨lb,1,none⟩=some (.int .i64 0):=(World.cell?_setCell_other _ _ _ _ (by intro e;injection e with _ e1;omega)).trans HC3.out.lcells.2.1;have f1:(w2.setCell ⟨lb,0,none⟩ (.int .i64 b)).frozen? ⟨lb,1,none⟩=false:=by simpa using HC3.out.lcells.2.2.2 1
   refine bp 13 ?_;refine aj 3 (.tmp 15) (.tmp 11) rfl lb 1 (.int .i64 t) _ rfl rfl rfl infoInt1 p1 f1 ?_;have HC4:=Hh (HC3.out.rebase G.out b t);obtain⟨W4,hW4⟩:∃W4,W4=(w2.setCell ⟨lb,0,none⟩ (.int .i64 b)).setCell ⟨lb,1,none⟩ (.int .i64 t):=⟨_,rfl⟩
   rw[<-hW4]at HC4 ⊢;have hS5:yE pl lb W4:=⟨HC4.out.cell G.out⟩
   refine⟨hS5,dc ?_⟩;clear hS4 hS5 p0 p1 f0 f1 hW4;go_wp2_with fail;refine(dK q 4096 _ _ HC4.out.eye).mono ?_;rintro e w5 ⟨hb5,hr5⟩;cases hg5:ak 4096 r2 with
   | err x=>
    rw[hg5]at hr5;obtain rfl:e=bK x:=hr5;have hN:N= .err x:=by rw[HN2.out,hg5];rfl
    subst hN;have HB:=Hh hb5;clear hg5 hb5;go_wp2;exact⟨rfl,HC4.out.err G.out HB.out⟩
   | ok n r5=>
    rw[hg5]at hr5;obtain⟨rfl,heye5⟩:=hr5;have hn9:=az hg5;have hN:N=(aJ n r5).bind fun l r4=> .ok ⟨b,t,l⟩ r4:=by rw[HN2.out,hg5];rfl
    have HN5:=Hh hN;have HC5:=Hh (HC4.out.but G.out hb5 heye5);clear hN hg5 hb5 heye5;go_wp2_with fail;go_loopw [18] (fun kv wr=>∃(k:Nat) (r:List UInt8) (H:List ar) (la:Option Addr) (lc:Nat) (ms:List af),kv= .int .u64 k/\k<=n/\ms.length=k/\N=((aJ (n-k) r).bind fun l r'=> .ok ⟨b,t,H++l⟩ r')/\Cl w q lb pl wr r ⟨b,t,H⟩ la lc ms) (fun kv _=>n-(intOf kv).toNat)
    case atStart=>exact⟨0,r5,[],none,0,[],rfl,by omega,rfl,by rw[HN5.out];rfl,HC5.out⟩
    case round=>
     obtain⟨k,r,H,la,lc,ms,rfl,hk,hmk,hNk,hck⟩:=hrel;have HNK:=Hh hNk;have I:=Hh hck;have HMK:=Hh hmk;have hml:ms.length<=4096:=by omega
     clear hNk hck hmk;by_cases hkn:k<n
     ·have tk:decide ((k:Int)<(n:Int))=true:=by simpa using hkn
      have hk1:n-k=(n-(k+1))+1:=by omega
      go_wp2_with fail;refine(dK q 1099511627776 _ _ I.out.eye).mono ?_;rintro e i ⟨hb6,hr6⟩;cases hg6:ak 1099511627776 r with
      | err x=>
       rw[hg6]at hr6;obtain rfl:e=bK x:=hr6;have hN:N= .err x:=by rw[HNK.out,hk1,aJ,hg6];rfl
       subst hN;have HB:=Hh hb6;clear hg6 hb6 hk1;go_wp2;exact⟨rfl,I.out.err G.out HB.out⟩
      | ok z r6=>
       rw[hg6]at hr6;obtain⟨rfl,heye6⟩:=hr6;have hz9:=az hg6;have wz:IntKind.i64.wrap (z:Int)=z:=IntWalk.i64_in _ (by omega);have HC6:=Hh (I.out.but G.out hb6 heye6);have HNK6:=Hh (show N=(aT 8192 r6).bind fun v r7=>(aJ (n-(k+1)) r7).bind fun l r'=> .ok ⟨b,t,H++(((z:Int),v)::l)⟩ r' from by
        rw[HNK.out,hk1,aJ,hg6,bO.bind_ok];cases hx:aT 8192 r6 with
        | err x=>rfl
        | ok v7 r7=>simp only[bO.bind_ok];cases hy:aJ (n-(k+1)) r7<;>rfl)
       obtain⟨W7,hW7⟩:∃W7,W7=i.alloc (.cells #[.int .i64 z, .slice none 0 0] 40):=⟨_,rfl⟩
       have HW7:=Hh hW7;have hb7:Below i.heap.size i W7:=by rw[hW7];exact(Below.refl _ _).alloc (Nat.le_refl _) _
       have hr7:W7.heap[i.heap.size]? =some (.cells #[.int .i64 z, .slice none 0 0] 40 (0,0)):=by rw[hW7];exact heap_alloc_new _ _
       have hs7:W7.heap.size=i.heap.size+1:=by rw[hW7];simp
       have HC7:=Hh (HC6.out.below G.out hb7);have HB7:=Hh hb7;have HR7:=Hh hr7;have hs6:=HC6.out.size;clear hg6 hb6 heye6 hW7 hb7 hr7 hk1;go_wp2_with fail;rw[<-HW7.out];refine(iQ q 8192 _ _ HC7.out.eye (by omega)).mono ?_;rintro e w8 ⟨hb8,hr8⟩;cases hg8:aT 8192 r6 with
       | err x=>
        rw[hg8]at hr8;obtain rfl:e=bK x:=hr8;have hN:N= .err x:=by rw[HNK6.out,hg8];rfl
        subst hN;have HB:=Hh hb8;clear hg8 hb8;go_wp2;exact⟨rfl,HC7.out.err G.out HB.out⟩
       | ok v r8=>
        rw[hg8]at hr8;obtain⟨⟨L,J,rfl,hbv,hov⟩,heye8⟩:=hr8;have hv8:v.length<=8192:=(fD hg8).2;have HN8:=Hh (show N=(aJ (n-(k+1)) r8).bind fun l r'=> .ok ⟨b,t,H++(((z:Int),v)::l)⟩ r' from by rw[HNK6.out,hg8];rfl);have R:=(hb8.block i.heap.size (by omega) (by have:=G.out.hq;omega)).trans HR7.out;have HB8:=Hh hb8;have HE8:=Hh heye8;have HOV:=Hh hov;have hs8:=hb8.size;have c1:w8.cell? ⟨i.heap.size,1,none⟩=some (.slice none 0 0):=cell_of_row w8 i.heap.size 1 _ _ _ R;have f1:w8.frozen? ⟨i.heap.size,1,none⟩=false:=frozen_of_row _ _ _ _ _ R;have HRW8:=Hh R;clear hg8 hb8 hbv hov heye8 R;go_wp2_with fail;obtain⟨d,hW9⟩:∃d,d=w8.setCell ⟨i.heap.size,1,none⟩ (.slice L v.length J):=⟨_,rfl⟩
        refine(show Code.wp _ _ _ _ (w8.setCell ⟨i.heap.size,1,none⟩ (.slice L v.length J)) from ?_);rw[<-hW9];have ho9:∀k,k≠i.heap.size->d.heap[k]? =w8.heap[k]? :=fun k hk=>by rw[hW9];exact Below.heap_setCell _ _ _ k hk
        have hs9:d.heap.size=w8.heap.size:=by rw[hW9];simp
        have hs9a:d.heap.size<=w8.heap.size:=by omega
        have hs9b:w8.heap.size<=d.heap.size:=by omega
        clear hs9;have W:d.os=w8.os/\d.tape=w8.tape/\d.output=w8.output:=by rw[hW9];exact⟨rfl,rfl,rfl⟩
        have hr9:d.heap[i.heap.size]? =some (.cells #[.int .i64 z, .slice L v.length J] 40 (0,0)):=by rw[hW9];have h9:=heap_setCell_same w8 i.heap.size 1 _ _ (.slice L v.length J) HRW8.out;simpa using h9
        have hch:∀k,k<i.heap.size->k≠q->d.heap[k]? =i.heap[k]? :=fun k hk hkq=>(ho9 k (by omega)).trans ((HB8.out.block k (by omega) hkq).trans (HB7.out.block k hk))
        have HCH:=Hh hch;have HE9:=Hh (HE8.out.keep (w':=d) ⟨W.1,W.2.1,W.2.2,by omega,fun k hk=>ho9 k (by omega)⟩);have HLN9:=Hh (HC6.out.ln.moved (W':=d) (hch lb (by omega) hlq) fun j h1 h2=>hch j h2 (by omega));have HOV9:=Hh (ec HOV.out (w':=d) fun g cur hg _=>ho9 g (by have:=(own_lt HOV.out hg).1;omega));have s:=Hh (show Cl w q lb pl d r8 ⟨b,t,H⟩ la lc ms from⟨W.1.trans (HB8.out.os.trans HC7.out.os),W.2.1.trans (HB8.out.tape.trans HC7.out.tape),W.2.2.trans (HB8.out.output.trans HC7.out.output),by omega,fun j h1 h2 h3=>(hch j (by omega) h2).trans (HC6.out.blk j h1 h2 h3),HE9.out,HLN9.out⟩);have HR9:=Hh hr9;clear hW9 ho9 W hr9 hch c1 f1;refine fx (S:=yp pl lb i.heap.size z (.slice L v.length J)) ?_;have hS9:yp pl lb i.heap.size z (.slice L v.length J) d:=⟨s.out.cell G.out,cell_of_row d i.heap.size 0 _ _ _ HR9.out,cell_of_row d i.heap.size 1 _ _ _ HR9.out⟩
        have HS9:=Hh hS9;have hpl:=G.out.hpl;have hdr:Below d.heap.size d d.drew:=(Below.refl _ _).drew;have X:=hS9.keep hdr (by omega) (by omega);clear hS9;refine hT 0 27 X ?_;refine hT 1 28 X ?_;refine hT 2 29 X ?_;refine hT 3 30 X ?_;refine hT 5 32 X ?_;obtain⟨F,V⟩:∃F,F=(d.alloc (.cells #[.int .i64 z, .slice L v.length J] 40)).drew:=⟨_,rfl⟩
        have hb10:Below d.heap.size d F:=by rw[V];exact((Below.refl _ _).alloc (Nat.le_refl _) _).drew
        have hs10:F.heap.size=d.heap.size+1:=by rw[V];simp
        have HSI:=Hh (show SlAt F F.heap.size 2 (some ⟨d.heap.size,0,none⟩) 1 1 [.int .i64 z, .slice L v.length J] from by rw[hs10,V];exact(cw d #[.int .i64 z, .slice L v.length J] 40 2 rfl).below (show Below (d.heap.size+1) (d.alloc (.cells #[.int .i64 z, .slice L v.length J] 40)) (d.alloc (.cells #[.int .i64 z, .slice L v.length J] 40)).drew from(Below.refl _ _).drew) (Nat.le_refl _))
        have f:=Hh hb10;have P:=Hh (HS9.out.keep hb10 (by omega) (by omega));have HW10:=Hh V;have HP2:=Hh (show ∀U,Below d.heap.size d U->U.cell? ⟨lb,2,none⟩=some (.slice la ms.length lc) from fun U hb=>(hb.cell (p:=⟨lb,2,none⟩) (by show lb<_;omega)).trans s.out.lcells.2.2.1);have HD9:=Hh hdr;have HS0:=Hh X;clear V hb10 hdr X;apply zf (fun U:World=>F=U);intro hway;refine nU 4 6 ?_ ?_
        ·skip
         have p2:=HP2.out _ HD9.out;go_simp;clear p2;refine⟨HS0.out,?_⟩;refine bp 6 ?_;go_simp;rw[<-HW10.out];refine⟨P.out,?_⟩;exact hway F rfl
        ·skip
         go_simp;rw[<-HW10.out];refine⟨P.out,?_⟩;refine bp 4 ?_;have p2:=HP2.out _ f.out;go_simp;clear p2;refine⟨P.out,?_⟩;exact hway F rfl
        intro U hU;subst hU;refine bp 7 ?_;refine aS F (.tmp 31) (.tmp 33) 30 rfl w.heap.size 40 i0 (.agg #[.int .i64 0, .slice none 0 0]) 2 32 Tryz.underlying30 hi hz0 hz1 hz2 rfl (by decide) (.slice la ms.length lc) ms.length (aK ms) rfl (da s.out.ln.own f.out) F.heap.size (some ⟨d.heap.size,0,none⟩) 1 1 [.int .i64 z, .slice L v.length J] rfl HSI.out (by intro u hu;simp at hu;rcases hu with rfl | rfl<;>rfl) (by unfold maxLen;omega) (by omega) (by omega) ?_;intro Z Y o o11 y _;have hs11:=y.size;have hq1:=G.out.hq;have hrow:∀j,some j=(Value.slice la ms.length lc).ownBlock->w.heap.size<=j:=fun j e=>(own_lt s.out.ln.own e.symm).1
        have T:∀j,j<w.heap.size->o.heap[j]? =d.heap[j]? :=fun j hj=>(y.block j (by omega) (fun e=>by have:=hrow j e;omega)).trans (f.out.block j (by omega))
        have HFAR:=Hh T;have hbox:(Value.slice la ms.length lc).ownBlock≠some i.heap.size:=fun e=>by have:=(own_lt HC6.out.ln.own e).2;omega
        have O:yp pl lb i.heap.size z (.slice L v.length J) o:=
         ⟨(y.cell_far ⟨pl,0,none⟩ (by show pl<_;omega) (fun e=>by have:=hrow pl e;omega)).trans P.out.g0,
          (y.cell_far ⟨i.heap.size,0,none⟩ (by show i.heap.size<_;omega) (fun e=>hbox e.symm)).trans P.out.k0,(y.cell_far ⟨i.heap.size,1,none⟩ (by show i.heap.size<_;omega) (fun e=>hbox e.symm)).trans P.out.k1⟩
        have C:o.heap[lb]? =some (.cells #[.int .i64 b, .int .i64 t, .slice la ms.length lc] 105 (0,0)):=(T lb hl).trans s.out.ln.row;refine⟨O,?_⟩;go_simp;refine hT 8 35 O ?_;refine hT 9 36 O ?_;have p2:o.cell? ⟨lb,2,none⟩=some (.slice la ms.length lc):=cell_of_row o lb 2 _ _ _ C;have f2:o.frozen? ⟨lb,2,none⟩=false:=frozen_of_row _ _ _ _ _ C;refine bp 10 ?_;refine aj 30 (.tmp 36) (.tmp 34) rfl lb 2 (.slice Z (ms.length+1) Y) _ rfl rfl rfl eI p2 f2 ?_;obtain⟨A,M⟩:∃A,A=o.setCell ⟨lb,2,none⟩ (.slice Z (ms.length+1) Y):=⟨_,rfl⟩
        rw[<-M];have D:∀j,j≠lb->A.heap[j]? =o.heap[j]? :=fun j hj=>by rw[M];exact Below.heap_setCell _ _ _ j hj
        have hs12:A.heap.size=o.heap.size:=by rw[M];simp
        have a1:A.os=o.os/\A.tape=o.tape/\A.output=o.output:=by rw[M];exact⟨rfl,rfl,rfl⟩
        have hr12:A.heap[lb]? =some (.cells #[.int .i64 b, .int .i64 t, .slice Z (ms.length+1) Y] 105 (0,0)):=by rw[M];have h9:=heap_setCell_same o lb 2 _ _ (.slice Z (ms.length+1) Y) C;simpa using h9
        have hE11:bF o q r8:=s.out.eye.keep ⟨y.os.trans f.out.os,y.tape.trans f.out.tape,y.output.trans f.out.output,by omega,fun j hj=>T j (by omega)⟩;have hE12:bF A q r8:=hE11.far (by omega) (fun j _ hj=>D j hj) hlq C;have a0:A.ownsRow w.heap.size 40 2 (.slice Z (ms.length+1) Y) (ms.length+1) (aK ms++ [.int .i64 z, .slice L v.length J]):=ec o11 fun g cur hg _=>D g (by have:=(own_lt o11 hg).1;omega)
        have hbyt:∀(m:af) (B:Nat),w.heap.size<=B->d.ownsRow B 5 1 (.slice m.a m.n m.c) m.n (m.b.map bv)->A.ownsRow w.heap.size 5 1 (.slice m.a m.n m.c) m.n (m.b.map bv):=fun m B hB h9=>by refine World.ownsRow.mono (ec h9 fun g cur hg hc=> ?_) hB;have h8:=own_lt h9 hg;refine(D g (by omega)).trans ((y.block g (by omega) (fun e=> ?_)).trans (f.out.block g (by omega)));obtain⟨cur',h7⟩:=fz s.out.ln.own e.symm;exact yO h7 hc cV.2.1
        have HC12:=Hh (show Cl w q lb pl A r8 ⟨b,t,H++ [((z:Int),v)]⟩ Z Y (ms++ [⟨z,L,v.length,J,v⟩]) from by
         refine⟨a1.1.trans (y.os.trans (f.out.os.trans s.out.os)),a1.2.1.trans (y.tape.trans (f.out.tape.trans s.out.tape)),a1.2.2.trans (y.output.trans (f.out.output.trans s.out.output)),by omega,fun j h1 h2 h3=>(D j h3).trans ((T j h1).trans (s.out.blk j h1 h2 h3)),hE12,⟨?_,?_,by simp[s.out.ln.its],fun m hm=> ?_⟩⟩
         ·rw[hr12];simp
         ·rw[dO];have h9:=a0;rw[show(ms++ [(⟨z,L,v.length,J,v⟩:af)]).length=ms.length+1 by simp];exact h9
         ·simp only[List.mem_append,List.mem_singleton]at hm;rcases hm with hm | rfl
          ·exact⟨(s.out.ln.bs m hm).1,hbyt m _ (Nat.le_refl _) (s.out.ln.bs m hm).2⟩
          ·exact⟨hv8,hbyt ⟨z,L,v.length,J,v⟩ W7.heap.size (by omega) HOV9.out⟩)
        have hS12:yp pl lb i.heap.size z (.slice L v.length J) A:=⟨HC12.out.cell G.out,(World.cell?_of_block (a:=⟨i.heap.size,0,none⟩) (D i.heap.size (by omega))).trans O.k0,(World.cell?_of_block (a:=⟨i.heap.size,1,none⟩) (D i.heap.size (by omega))).trans O.k1⟩
        refine⟨hS12,dc ?_⟩;have HNN:=Hh (show N=((aJ (n-(k+1)) r8).bind fun l r'=> .ok ⟨b,t,(H++ [((z:Int),v)])++l⟩ r') from by
         rw[HN8.out]
         congr 1
         funext l r'
         simp)
        have hmk12:(ms++ [(⟨z,L,v.length,J,v⟩:af)]).length=k+1:=by simp[HMK.out]
        have HMK2:=Hh hmk12;clear hS12 O p2 f2 C M D a1 hr12 a0 hbyt T hbox hrow y o11 hmk12 hE11 hE12;go_wp2;go_roundw
        case rel=>exact⟨k+1,r8,H++ [((z:Int),v)],Z,Y,ms++ [⟨z,L,v.length,J,v⟩],by go_num,hkn,HMK2.out,HNN.out,HC12.out⟩
        case measure=>simp[intOf];omega
     ·have tk:decide ((k:Int)<(n:Int))=false:=by simpa using hkn
      have hke:k=n:=by omega
      subst hke;have hN:N= .ok ⟨b,t,H⟩ r:=by rw[HNK.out,Nat.sub_self];simp[aJ]
      subst hN;have HEL:=Hh I.out.eye.len;clear hkn;go_wp2;go_end0;exact⟨I.out.os,I.out.tape,I.out.output,I.out.size,I.out.blk,(fun x hh=>by cases hh),(fun v' rest hh=>by cases hh;exact⟨rfl,HEL.out,la,lc,ms,I.out.ln⟩)⟩
def jw(r:bO ae):Int×Option ae:=
 match r with
 | .err x=>(x,none)
 | .ok v rest=>if rest= [] then(if cL v v.l.length=true then(0,some v) else(4,none)) else(3,none)
def mr(o:Int×Option ae)(w:World)(e:Ending)(w':World):Prop:=
 Below w.heap.size w w'/\match o.2 with
  | none=>e= .returned (.tuple #[.pointer none, .int .i64 o.1])
  | some v=>∃p c b a,e= .returned (.tuple #[.pointer (some ⟨p,0,none⟩), .int .i64 o.1])/\cE w' w.heap.size p v c b a
structure zk (pl lb:Nat) (sl:Value) (W:World):Prop where
 g0:W.cell? ⟨pl,0,none⟩=some (.pointer (some ⟨lb,0,none⟩))
 g2:W.cell? ⟨lb,2,none⟩=some sl
theorem vA(l:List UInt8)(a:Option Addr)(n c:Nat)(w:World)(h:aM w w.heap.size a n c l):
  Calls Tryz.prog 94 #[.slice a n c] w (mr (jw (cx l)) w):=by
 obtain⟨R,s⟩:∃R,R=cx l:=⟨_,rfl⟩
 have d:=oH l;rw[<-s]at d ⊢;have HR:=Hh s;have HS:=Hh d;have H:=Hh h;obtain⟨t,g⟩:∃t,t=(w.alloc (.cells #[.int .i64 0, .int .i64 0, .slice none 0 0] 105)).alloc (.cells #[.pointer (some ⟨w.heap.size,0,none⟩)] 73):=⟨_,rfl⟩
 have Z:=Hh g;have hs1:t.heap.size=w.heap.size+2:=by rw[g];simp
 have C:=Hh (show Below w.heap.size w t by rw[g];exact((Below.refl _ _).alloc (Nat.le_refl _) _).alloc (by simp) _);have a0:=Hh (show t.heap[w.heap.size]? =some (.cells #[.int .i64 0, .int .i64 0, .slice none 0 0] 105 (0,0)) by rw[g];exact(((Below.refl _ _).alloc (Nat.le_refl (w.alloc (.cells #[.int .i64 0, .int .i64 0, .slice none 0 0] 105)).heap.size) _).block _ (by simp)).trans (heap_alloc_new w _))
 have M:=Hh (show t.heap[w.heap.size+1]? =some (.cells #[.pointer (some ⟨w.heap.size,0,none⟩)] 73 (0,0)) by rw[g];have G:=heap_alloc_new (w.alloc (.cells #[.int .i64 0, .int .i64 0, .slice none 0 0] 105)) (.cells #[.pointer (some ⟨w.heap.size,0,none⟩)] 73);simpa using G)
 clear s d h g;go_enter Tryz.func94,Tryz.ntmps94
 go_wp2_with fail;rw[<-Z.out];refine(lH R HS.out l a n c 117 (iR Tryz.func117 (by kernel_rfl) rfl) #[] #[.pointer (some ⟨w.heap.size+1,0,none⟩)] w.heap.size t (by omega) ((H.out.below C.out (Nat.le_refl _)).mono C.out.size)
  (fun D w' v=>∃z y p,kC D.heap.size w.heap.size w' v z y p) ?_).mono ?_
 ·intro q D Y hq he;show Calls _ 117 #[.pointer (some ⟨q,0,none⟩), .pointer (some ⟨w.heap.size+1,0,none⟩)] D _;rw[HR.out];have hs:=Y.size;exact ur q w.heap.size (w.heap.size+1) l D he ⟨he.1,by omega,by omega,by omega,by omega,by omega,cell_of_row D (w.heap.size+1) 0 _ _ _ ((Y.block _ (by omega)).trans M.out)⟩ ((Y.block _ (by omega)).trans a0.out)
 ·rintro e o ⟨rfl,O,I⟩;have L:Below w.heap.size w o:=C.out.trans ((Below.refl _ t).grown O (by omega) (fun k e=>by cases e;omega));have hs2:=O.size;have m:=Hh L;have HOK:=Hh I;have d1:o.heap[w.heap.size+1]? =some (.cells #[.pointer (some ⟨w.heap.size,0,none⟩)] 73 (0,0)):=(O.block (w.heap.size+1) (by omega) (by simp)).trans M.out;have T:o.cell? ⟨w.heap.size+1,0,none⟩=some (.pointer (some ⟨w.heap.size,0,none⟩)):=cell_of_row o (w.heap.size+1) 0 _ _ _ d1;clear O I L d1;by_cases A:∃v,R= .ok v []
  ·obtain⟨v,F⟩:=A;obtain⟨D,w',rb,k1,k2,k3,k4,⟨z,y,p,k5⟩,U⟩:=HOK.out v F;have k7:=k4.size;obtain⟨-,X,W, -, -, -, -⟩:=jG (r:=l) (by rw[<-HR.out];exact F);have i:cE o w.heap.size w.heap.size v z y p:=(k5.moved (U.block _ (by omega) (by omega)) fun j h1 h2=>U.block j h2 (by omega)).lnAt (by omega);have N:=Hh i;have A:R.code=0:=by rw[F];rfl
   have t1:(R.code !=0)=false:=by simp[A]
   obtain⟨f,V⟩:∃f,cL v (p.length:Int)=f:=⟨_,rfl⟩
   have HF:=Hh V;have P:=Hh (show jw R=if f=true then(0,some v) else(4,none) by rw[F,<-V,i.len];rfl);have p2:=i.cells.2.2.1;have hml:p.length<=4096:=by obtain⟨-, -, -, -, -,G, -⟩:=jG (r:=l) (by rw[<-HR.out];exact F);have:=i.len;omega
   clear A F k4 k5 U i V;go_wp2_with fail;refine fx (S:=zk (w.heap.size+1) w.heap.size (.slice z p.length y)) ?_;have b:zk (w.heap.size+1) w.heap.size (.slice z p.length y) o.drew:=⟨T,p2⟩
   refine hT 0 16 b ?_;refine hT 1 17 b ?_;refine hT 2 18 b ?_;refine hT 3 19 b ?_;refine hT 4 20 b ?_;refine hT 5 21 b ?_;refine bp 6 ?_;go_simp;have B:Below o.heap.size o o.drew:=(Below.refl _ _).drew;refine(kl w.heap.size w.heap.size v X W z y p _ _ (N.out.below B)).mono ?_;rintro e w3 ⟨rfl,rfl⟩;rw[HF.out];refine⟨b,?_⟩;refine hT 7 23 b ?_;refine hT 8 15 b ?_;refine dc ?_;have HD:=Hh B;have q0:o.drew.cell? ⟨w.heap.size+1,0,none⟩=some (.pointer (some ⟨w.heap.size,0,none⟩)):=T;clear b B p2 T;cases f with
   | true=>go_wp2;(try rw[Exit.noGoto_ret]);go_ret2;unfold mr;rw[P.out];exact⟨m.out.trans (HD.out.mono m.out.size),w.heap.size,z,y,p,rfl,N.out.below HD.out⟩
   | false=>go_wp2;(try rw[Exit.noGoto_ret]);go_ret2;unfold mr;rw[P.out];exact⟨m.out.trans (HD.out.mono m.out.size),rfl⟩
  ·have J:R.code≠0:=by
    cases s:R with
    | err x=>exact HS.out x s
    | ok v rest=>
     simp only[bO.code];split
     ·rename_i G;exact absurd ⟨v,by rw[s,G]⟩ A
     ·decide
   have P:=Hh (show jw R=(R.code,none) by
    cases s:R with
    | err x=>rfl
    | ok v rest=>
     simp only[bO.code,jw];split
     ·rename_i G;exact absurd ⟨v,by rw[s,G]⟩ A
     ·rfl)
   have t1:(R.code !=0)=true:=by simpa using J
   clear A J;go_wp2;(try rw[Exit.noGoto_ret]);go_ret2;unfold mr;rw[P.out];exact⟨m.out,rfl⟩
theorem uG{x:ae}(a:x.Good):cL x (x.l.length:Int)=true:=by have:=a.n1;have:=a.n2;simp[cL];omega
theorem vl{x:ae}(a:x.Good):jw (cx x.put)=(0,some x):=by have h:=rm a [];rw[List.append_nil]at h;rw[h];simp[jw,uG a]
theorem oN{l:List UInt8}{v:ae}{e:Int}(h:jw (cx l)=(e,some v)):e=0/\v.Good/\l=v.put:=by
 cases hr:cx l with
 | err x=>rw[hr]at h;cases h
 | ok v' rest=>
  rw[hr]at h;simp only[jw]at h;by_cases b:rest= []
  ·rw[if_pos b]at h;by_cases a:cL v' v'.l.length=true
   ·rw[if_pos a]at h;injection h with h3 h4;injection h4 with h4;subst h4;obtain⟨k,j,i,g,f,d,c⟩:=jG hr;simp[cL]at a;exact⟨h3.symm,⟨j,i,g,f,d,by omega,c⟩,by rw[k,b];simp⟩
   ·rw[if_neg a]at h;cases h
  ·rw[if_neg b]at h;cases h
theorem uh{l:List UInt8}{e:Int}(h:jw (cx l)=(e,none)):e≠0:=by
 cases hr:cx l with
 | err x=>rw[hr]at h;simp only[jw]at h;injection h with a _;rw[<-a];exact oH l x hr
 | ok v' rest=>
  rw[hr]at h;simp only[jw]at h;by_cases a:rest= []
  ·rw[if_pos a]at h;by_cases b:cL v' v'.l.length=true
   ·rw[if_pos b]at h;cases h
   ·rw[if_neg b]at h;injection h with h3 _;omega
  ·rw[if_neg a]at h;injection h with h3 _;omega
end Go.Proofs.YtogcnfhmcpkdcaaGreat
