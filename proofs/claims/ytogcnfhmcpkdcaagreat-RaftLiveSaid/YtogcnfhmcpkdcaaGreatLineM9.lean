/-
Contracts of the library's Clone and ContainsFunc of items, of Line.Copy and Line.Drop.
-/
import Derived.Test.YtogcnfhmcpkdcaaGreatLine2
import Derived.Test.YtogcnfhmcpkdcaaGreatSliceOps
import Derived.BigQuiet
set_option maxRecDepth 100000
set_option maxHeartbeats 4000000
namespace Go.Proofs.YtogcnfhmcpkdcaaGreat
open Go.RowKit
set_option linter.unusedVariables false
set_option linter.unusedSimpArgs false
theorem ek(w:World)(B size:Nat)(hB:B<=w.heap.size)(t:TypeId):(w.alloc (.cells #[] t)).ownsRow B t size (.slice (some ⟨w.heap.size,0,none⟩) 0 0) 0 []:=⟨by simp, .inr ⟨w.heap.size,0,#[],rfl,hB,heap_alloc_new w _,Nat.le_refl _,by unfold maxLen;omega,by simp,by simp⟩⟩
theorem jL(cs:List Value)(hcs:∀u∈cs,u.oneCell'=true)(a:Option Addr)(n c:Nat)(hn:n<=100000)(w:World)(h:SlAt w w.heap.size 2 a n c cs):
  Calls Tryz.prog 89 #[.slice a n c] w fun e w'=>∃a' c',e= .returned (.slice a' n c')/\w'.ownsRow w.heap.size 40 2 (.slice a' n c') n cs/\Below w.heap.size w w':=by
 have z:∀(w:World) (a:Option Addr) (n c g c':Nat),(binOp .eql 30 (.slice a n c) (.slice none g c')).run Tryz.prog w= .ok (.bool a.isNone) w:=fun w a n c g c'=>Lib.run_eql_slice_nil w _ _ a n c g c' Tryz.underlying30
 obtain⟨r,v,l,j,i⟩:=info_parts eJ;have H:=Hh h;cases a with
 | none=>
  have o:=h.hnil rfl;subst o;have m:n=0:=by have:=h.hle;omega
  subst m;have s:cs= []:=List.eq_nil_of_length_eq_zero (by have:=h.hlen;omega);subst s;clear h;go_enter Tryz.func89,Tryz.ntmps89
  go_wp2;go_ret;exact⟨none,0,rfl,⟨rfl, .inl ⟨rfl,rfl⟩⟩,Below.refl _ _⟩
 | some ad=>
  clear h;go_enter Tryz.func89,Tryz.ntmps89
  go_wp2_with (at_builtin;refine bU _ rfl (.tmp 5) (.tmp 6) 30 rfl w.heap.size 40 r (.agg #[.int .i64 0, .slice none 0 0]) 2 32 Tryz.underlying30 v l j i rfl (by decide) _ 0 [] rfl (ek w w.heap.size 2 (Nat.le_refl _) 40) (w.heap.size+1) (some ad) n c cs rfl ((H.out.below ((Below.refl _ w).alloc (Nat.le_refl _) _) (Nat.le_refl _)).mono (by simp)) hcs (by unfold maxLen;omega) (by omega) (by simp) ?_;intro y c5 q f b p);have d:=f;simp only[Nat.zero_add,List.nil_append]at d;have x:Below w.heap.size w q:=((Below.refl _ w).alloc (Nat.le_refl _) (.cells #[] 40)).grown b (by simp) (fun k t=>(own_lt (ek w w.heap.size 2 (Nat.le_refl _) 40) t).1);go_ret;simp only[Nat.zero_add];exact⟨y,c5,rfl,d,x⟩
theorem uw(t:Int)(a:Option Addr)(c:Nat)(b:List UInt8)(w:World):
  Calls Tryz.prog 111 #[.agg #[.int .i64 t, .slice a b.length c]] w fun e w'=>e= .returned (.bool (!bj (t,b)))/\Below w.heap.size w w':=by
 obtain⟨r,f⟩:∃r,bj (t,b)=r:=⟨_,rfl⟩
 rw[f];have h:=Hh f;have i:=Hh ((Below.refl _ w).alloc (Nat.le_refl _) (.cells #[.int .i64 t, .slice a b.length c] 40));clear f;go_enter Tryz.func111,Tryz.ntmps111
 go_wp2_with fail;refine(iG _ _ _ _ _).mono ?_;rintro e j ⟨rfl,d⟩;rw[h.out];have g:=Hh (i.out.trans (d.mono (by simp)));clear d;go_wp2;go_ret;exact⟨rfl,g.out⟩
def cg(ms:List af):Bool:=ms.any fun m=> !bj m.it
theorem lL{ms:List af}{j:Nat}{m:af}(h:ms[j]? =some m):cg (ms.take (j+1))=(cg (ms.take j) || !bj m.it):=by
 have a:j<ms.length:=(List.getElem?_eq_some_iff.1 h).1;have e:ms[j]=m:=by simpa[List.getElem?_eq_getElem a] using h
 unfold cg;rw[List.take_succ_eq_append_getElem a,List.any_append,e]
 simp
theorem lM{ms:List af}{j:Nat}(h:cg (ms.take j)=true):cg ms=true:=by unfold cg at*;rw[List.any_eq_true]at*;obtain⟨m,a,b⟩:=h;exact⟨m,List.mem_of_mem_take a,b⟩
theorem sz(ms:List af)(a:Option Addr)(n c:Nat)(w:World)(hn:n<=100000)(h:bd w w.heap.size a n c ms):
  Calls Tryz.prog 104 #[.slice a n c, .func (.func 111) #[] #[]] w fun e w'=>∃k:Int,e= .returned (.int .i64 k)/\decide (0<=k)=cg ms/\Below w.heap.size w w':=by
 have J:=h.len;subst J;have H:=Hh h;clear h;go_enter Tryz.func104,Tryz.ntmps104
 go_wp2_with fail;go_loopw [8] (fun v wr=>∃j:Nat,j<=ms.length/\v= .int .i64 j/\cg (ms.take j)=false/\Below w.heap.size w wr) (fun v _=>ms.length-(intOf v).toNat)
 case atStart=>exact⟨0,by omega,rfl,rfl,Below.refl _ _⟩
 case round=>
  obtain⟨j,P,rfl,f,d⟩:=hrel;have r:=Hh f;have I:=Hh d;clear f;by_cases y:j<ms.length
  ·obtain⟨m,s⟩:∃m,ms[j]? =some m:=⟨_,List.getElem?_eq_getElem y⟩
   obtain⟨b,o,rfl,G,F,D⟩:=H.out.cell s;have c0:=(d.cell (p:=⟨b,o+j*2,none⟩) G).trans F;have c1:wr.cell? ⟨b,o+j*2+1,none⟩=some (.slice m.a m.n m.c):=(d.cell (p:=⟨b,o+(j*2+1),none⟩) G).trans D;have i:m.n=m.b.length:=((H.out.bs m (List.mem_of_getElem? s)).hlen).symm;rw[i]at c1;have g:=lL s;rw[r.out,Bool.false_or]at g;have A:=Hh g;have C:=Hh (show cg (ms.take (j+1))=true->cg ms=true from lM);have M:(0:Int)<=(j:Int):=by omega
   have L:(j:Int)<(ms.length:Int):=by omega
   have x:=d.size;clear F D s g d i;go_wp2_with fail;refine(uw m.t m.a m.c m.b _).mono ?_;rintro e O ⟨rfl,l⟩;have q:=Hh (I.out.trans (l.mono x));clear l c0 c1;rw[<-A.out];cases hr:cg (ms.take (j+1))
   ·have B:=Hh hr;clear hr;go_wp2;go_roundw
    case rel=>exact⟨j+1,by omega,by go_num,B.out,q.out⟩
    case measure=>simp[intOf];omega
   ·have B:=Hh (C.out hr);clear hr;go_wp2;go_ret;exact⟨j,rfl,by rw[B.out];simp,q.out⟩
  ·have z:j=ms.length:=by omega
   subst z;have N:=Hh (show cg ms=false by have:=r.out;rwa [List.take_length]at this);clear d;go_wp2;go_ret;exact⟨-1,rfl,by rw[N.out];rfl,I.out⟩
theorem fZ(ms:List af)(a:Option Addr)(n c:Nat)(w:World)(hn:n<=100000)(h:bd w w.heap.size a n c ms):
  Calls Tryz.prog 75 #[.slice a n c, .func (.func 111) #[] #[]] w fun e w'=>e= .returned (.bool (cg ms))/\Below w.heap.size w w':=by
 have H:=Hh h;clear h;go_enter Tryz.func75,Tryz.ntmps75
 go_wp2_with fail;refine(sz ms a n c w hn H.out).mono ?_;rintro e i ⟨k,rfl,b,d⟩;have g:=Hh d;have f:=Hh b;clear b d;go_wp2;go_ret;exact⟨bY f.out,g.out⟩
theorem bd.from_{w:World}{B:Nat}{a:Option Addr}{n c:Nat}{ms:List af}(h:bd w B a n c ms){k:Nat}(d:k<=n):bd w B (if c=k then a else a.map (·.add (k*2))) (n-k) (c-k) (ms.drop k):=⟨by rw[<-lJ];exact h.sl.from_ d,fun m b=>h.bs m (List.mem_of_mem_drop b)⟩
theorem yj{p c k:Nat}{a:Option Addr}(h:∀ad,a=some ad->ad.block≠p):∀ad,(if c=k then a else a.map (·.add (k*2)))=some ad->ad.block≠p:=by
 intro ad e;by_cases b:c=k
 ·rw[if_pos b]at e;exact h ad e
 ·rw[if_neg b]at e;cases a with
  | none=>simp at e
  | some a'=>simp at e;subst e;have:=h a' rfl;unfold Addr.add;split<;>exact this
theorem bd.turned{w w':World}{B p:Nat}{a:Option Addr}{n c:Nat}{ms:List af}(h:bd w B a n c ms)(ht:∀k,k<B->k≠p->w'.heap[k]? =w.heap[k]?)(hne:∀ad,a=some ad->ad.block≠p)
 {i j:Int}{v:Value}{T:TypeId}(t:∀z:Int,v≠.int .u8 z)(hrow:w.heap[p]? =some (.cells #[.int .i64 i, .int .i64 j,v] T (0,0))):bd w' B a n c ms:=by
 refine⟨⟨h.sl.hlen,h.sl.hle,h.sl.hmax,h.sl.hnil,fun l=> ?_⟩,fun m x=> ?_⟩
 ·obtain⟨b,o,e,g,q⟩:=h.sl.hat l;exact⟨b,o,e,g,fun i r=>(World.cell?_of_block (a:=⟨b,o+i,none⟩) (ht b g (hne _ e))).trans (q i r)⟩
 ·have d:=h.bs m x;refine⟨d.hlen,d.hle,d.hmax,d.hnil,d.hbig,fun l=> ?_⟩;obtain⟨b,o,e,g,q⟩:=d.hat l;have s:b≠p:=by
   intro y;have f:=q 0 l;rw[y,cell_of_row _ _ _ _ _ _ hrow]at f
   match o,f with
   | 0,f=>simp at f
   | 1,f=>simp at f
   | 2,f=>simp at f;exact t _ f
   | n+3,f=>simp at f
  exact⟨b,o,e,g,fun i r=>(World.cell?_of_block (a:=⟨b,o+i,none⟩) (ht b g s)).trans (q i r)⟩
structure gR (x:ae) (prev:Int) (js:List af) (w:World) (p:Nat) (wr:World) (k:Nat) (r:List af) (a:Option Addr) (c:Nat):Prop where
 le:k<=js.length
 hr:r=js.drop k
 ub:prev+k<=x.last
 df:x.diff (prev+1) (js.map af.it)=x.diff (prev+1+k) (r.map af.it)
 its:bd wr w.heap.size a r.length c r
 ne:0<r.length->∀ad,a=some ad->ad.block≠p
 bel:Below w.heap.size w wr
theorem gR.below{x:ae}{b:Int}{d:List af}{w:World}{p:Nat}{wr w':World}{k:Nat}{r:List af}{a:Option Addr}{c:Nat}(h:gR x b d w p wr k r a c)(hb:Below wr.heap.size wr w'):gR x b d w p w' k r a c:=⟨h.le,h.hr,h.ub,h.df,h.its.below (hb.mono h.bel.size) (Nat.le_refl _),h.ne,h.bel.trans (hb.mono h.bel.size)⟩
theorem gR.step{x:ae}{b:Int}{d:List af}{w:World}{p:Nat}{wr:World}{k:Nat}{m:af}{e:List af}{a:Option Addr}{c:Nat}(h:gR x b d w p wr k (m::e) a c)
 (i:b+1+k<=x.base\/x.tm (b+1+k)=m.t)(hl:b+1+k<=x.last):gR x b d w p wr (k+1) e (if c=1 then a else a.map (·.add (1*2))) (c-1):=by
 have j:k<d.length:=by have:=congrArg List.length h.hr;simp at this;omega
 have f:e=d.drop (k+1):=by have g:=h.hr;rw[List.drop_eq_getElem_cons j]at g;exact(List.cons.inj g).2
 refine⟨by omega,f,by omega,?_,?_,fun _=>yj (h.ne (by simp)),h.bel⟩
 ·rw[h.df,List.map_cons,ae.diff_step (by simp) (by simpa using i)];simp only[List.drop_succ_cons,List.drop_zero];rw[show b+1+(k:Int)+1=b+1+((k+1:Nat):Int) by omega]
 ·have:=h.its.from_ (k:=1) (by simp);simpa using this
structure nY (x:ae) (keep:Nat) (rr:List af) (w:World) (base p:Nat) (ja:Option Addr) (jc:Nat) (wr:World) (i:Nat) (la:Option Addr) (lc:Nat) (ms:List af):Prop where
 le:i<=rr.length
 ln:cE wr base p ⟨x.base,x.term,x.l.take keep++(rr.take i).map af.it⟩ la lc ms
 tu:cJ p none w wr
 nw:∀g,(Value.slice la ms.length lc).ownBlock=some g->w.heap.size<=g
 its:bd wr w.heap.size ja rr.length jc rr
theorem nY.next{x:ae}{keep:Nat}{a:List af}{w:World}{base p:Nat}{m:Option Addr}{r:Nat}{j:World}{i:Nat}{la:Option Addr}{lc:Nat}{ms:List af}(h:nY x keep a w base p m r j i la lc ms){mi mx:af}(b:a[i]? =some mi){W:World}{f:Option Addr}{c4 N:Nat}
 (hT:cJ p (Value.slice la ms.length lc).ownBlock j W)(hln:cE W base p ⟨x.base,x.term,x.l.take keep++(a.take i).map af.it++ [mi.it]⟩ f c4 (ms++ [mx]))(hN:w.heap.size<=N)(hw:w.heap.size<=j.heap.size)
 (o:(Value.slice f (ms.length+1) c4).ownBlock=(Value.slice la ms.length lc).ownBlock\/(Value.slice f (ms.length+1) c4).ownBlock=some N)(hne:∀ad,m=some ad->ad.block≠p):nY x keep a w base p m r W (i+1) f c4 (ms++ [mx]):=by
 have s:i<a.length:=(List.getElem?_eq_some_iff.1 b).1;have e:a[i]=mi:=by simpa[List.getElem?_eq_getElem s] using b
 refine⟨by omega,?_,h.tu.trans hT (.inr h.nw),fun g c=> ?_,?_⟩
 ·rw[List.take_succ_eq_append_getElem s,List.map_append,<-List.append_assoc,e];exact hln
 ·rw[show(ms++ [mx]).length=ms.length+1 by simp]at c;rcases o with q | q
  ·exact h.nw g (q.symm.trans c)
  ·rw[q]at c;injection c with d;omega
 ·refine h.its.turned (fun k t n=>hT.block k (by omega) n (fun d=> ?_)) hne (fun z d=>by cases d) h.ln.row;have:=h.nw k d.symm;omega
theorem nQ(ms:List af):((ms.map af.it).any fun it=> !bj it)=cg ms:=by unfold cg;rw[List.any_map];rfl
theorem nR{ms:List af}(h:cg ms=false){m:af}(a:m∈ms):bj m.it=true:=by unfold cg at h;rw[List.any_eq_false]at h;have:=h m a;simpa using this
structure d8 (w:World) (base:Nat) (a:Option Addr) (c:Nat) (ms:List af):Prop where
 own:w.ownsRow base 40 2 (.slice a ms.length c) ms.length (aK ms)
 bs:∀m∈ms,OwnBs 5 w m
theorem d8.below{w w':World}{base:Nat}{a:Option Addr}{c:Nat}{ms:List af}(h:d8 w base a c ms)(hb:Below w.heap.size w w'):d8 w' base a c ms:=⟨da h.own hb,fun m b=>(h.bs m b).below hb⟩
theorem d8.at{w:World}{base:Nat}{a:Option Addr}{c:Nat}{ms:List af}(h:d8 w base a c ms):bd w w.heap.size a ms.length c ms:=by obtain⟨a',f,e,b⟩:=SlAt.ofOwns h.own;injection e with e1 _ e2;subst e1 e2;exact⟨b,fun m d=>(h.bs m d).1⟩
theorem d8.next{w i b:World}{base:Nat}{a:Option Addr}{c:Nat}{ms:List af}(h:d8 w base a c ms){m:af}(q:OwnBs 5 w m){a6:Option Addr}{o:Nat}
 (l:Below w.heap.size w i)(hown:b.ownsRow base 40 2 (.slice a6 (ms.length+1) o) (ms.length+1) (aK ms++m.cells))(hg:i.grownBy b (Value.slice a ms.length c).ownBlock):d8 b base a6 o (ms++ [m]):=by
 have t:=hg.size;have p:=l.size;have j:∀k n fr,k<w.heap.size->w.heap[k]? =some (.cells n 5 fr)->b.heap[k]? =w.heap[k]? :=fun k n fr r f=>by
  have g:some k≠(Value.slice a ms.length c).ownBlock:=fun e=>by obtain⟨cur,s⟩:=fz h.own e.symm;rw[s]at f;injection f with f;injection f with _ e2 _;exact cV.2.1 e2
  exact(hg.block k (by omega) g).trans (l.block k r)
 refine⟨by rw[show(ms++ [m]).length=ms.length+1 by simp,dO];exact hown,fun y d=> ?_⟩;simp at d;rcases d with d | rfl
 ·exact(h.bs y d).grown (T:=5) j (by omega)
 ·exact q.grown (T:=5) j (by omega)
structure sR (rr:List af) (w W:World) (wr:World) (j:Nat) (a:Option Addr) (c:Nat) (os:List af):Prop where
 le:j<=rr.length
 ln:os.length=j
 own:d8 wr w.heap.size a c os
 its:os.map af.it=(rr.take j).map af.it
 bel:Below w.heap.size w wr
def yB(base:Nat)(out:List ar)(w:World)(e:Ending)(w':World):Prop:=∃a' b a,e= .returned (.slice a' a.length b)/\d8 w' w.heap.size a' b a/\a.map af.it=out/\Below w.heap.size w w'
theorem lZ(w:World):d8 w w.heap.size none 0 []:=⟨⟨rfl, .inl ⟨rfl,rfl⟩⟩,by simp⟩
theorem kQ(base p:Nat)(x:ae)(hg:x.Good)(la:Option Addr)(lc:Nat)(ms:List af)(i most:Int)(w:World)(h:cE w base p x la lc ms):
  Calls Tryz.prog 69 #[.pointer (some ⟨p,0,none⟩), .int .i64 i, .int .i64 most] w (yB base (x.from_ i most) w):=by
 obtain⟨i0,hi,hz0,hz1,hz2⟩:=info_parts eJ;obtain⟨c0,c1,c2,cf⟩:=h.cells;have hl:=h.len;have h1:=hg.b0;have h2:=hg.b1;have h3:=hg.n1;have g:x.last=x.base+(x.l.length:Int):=rfl;obtain⟨L,hL⟩:∃L,L=x.last:=⟨_,rfl⟩
 obtain⟨R,H⟩:∃R,R=x.from_ i most:=⟨_,rfl⟩
 rw[<-H];have HH:=Hh h;have HL:=Hh hL;by_cases e0:i<=x.base
 ·have t0:decide (i<=x.base)=true:=by simpa using e0
  have hr:R= []:=by rw[H,ae.from_,if_pos (.inl e0)]
  subst hr;clear h hl H g hL h3 e0;go_enter Tryz.func69,Tryz.ntmps69
  go_wp2;go_ret;exact⟨none,0,[],rfl,lZ _,rfl,Below.refl _ _⟩
 have t0:decide (i<=x.base)=false:=by simpa using e0
 by_cases e1:L<i
 ·have t1:decide (L<i)=true:=by simpa using e1
  have hr:R= []:=by rw[H,ae.from_,if_pos (.inr (.inl (by rw[<-hL];exact e1)))]
  subst hr;clear h hl H g hL h3 e0 e1;go_enter Tryz.func69,Tryz.ntmps69
  go_wp2_with fail;refine(cC base p x hg la lc ms _ HH.out).mono ?_;rintro e w1 ⟨rfl,m,rfl⟩;rw[<-HL.out];go_wp2;go_ret;exact⟨none,0,[],rfl,(lZ w).below (below_drewN _ _),rfl,below_drewN _ _⟩
 have t1:decide (L<i)=false:=by simpa using e1
 by_cases e2:most<1
 ·have t2:decide (most<1)=true:=by simpa using e2
  have hr:R= []:=by rw[H,ae.from_,if_pos (.inr (.inr e2))]
  subst hr;clear h hl H g hL h3 e0 e1 e2;go_enter Tryz.func69,Tryz.ntmps69
  go_wp2_with fail;refine(cC base p x hg la lc ms _ HH.out).mono ?_;rintro e w1 ⟨rfl,m,rfl⟩;rw[<-HL.out];go_wp2;go_ret;exact⟨none,0,[],rfl,(lZ w).below (below_drewN _ _),rfl,below_drewN _ _⟩
 have t2:decide (most<1)=false:=by simpa using e2
 obtain⟨K,hK⟩:∃K:Nat,i-x.base-1=K:=⟨(i-x.base-1).toNat,by omega⟩
 have hKn:K<ms.length:=by omega
 obtain⟨M,hM⟩:∃M:Nat,most=M:=⟨most.toNat,by omega⟩
 subst hM;obtain⟨N,hN⟩:∃N:Nat,N=min M (ms.length-K):=⟨_,rfl⟩
 have hNn:N<=ms.length-K:=by omega
 have hcn:ms.length<=lc:=h.sl.sl.hle;obtain⟨r,s⟩:∃r,r=(ms.drop K).take N:=⟨_,rfl⟩
 have hrl:r.length=N:=by rw[s];simp;omega
 have J:R=r.map af.it:=by
  rw[H,ae.from_,if_neg (by omega),hK,s,List.map_take,List.map_drop,h.its];simp only[Int.toNat_natCast];rw[hN];by_cases hle:M<=ms.length-K
  ·rw[Nat.min_eq_left hle]
  ·rw[Nat.min_eq_right (by omega),List.take_of_length_le (l:=List.drop K x.l) (by simp;omega),List.take_of_length_le (by simp;omega)]
 obtain⟨A,hA⟩:∃A,(if lc=K then la else Option.map (fun x=>x.add (K*2)) la)=A:=⟨_,rfl⟩
 have O:bd w w.heap.size A N (lc-K) r:=by
  have hf:=h.sl.from_ (k:=K) (by omega);have hc2:=hf.sl.hle;rw[<-hA];refine⟨?_,fun m hm=> ?_⟩
  ·have h9:=hf.sl.upto (k:=N) (m:=lc-K) (by omega) (by omega) (by omega);rw[iu]at h9;rw[s];exact h9
  ·rw[s]at hm;exact hf.bs m (List.mem_of_mem_take hm)
 have wK:IntKind.i64.wrap (K:Int)=K:=IntWalk.i64_in _ (by omega);have hKn2:K<=ms.length:=by omega
 have hNc:N<=lc-K:=by omega
 have HIT:=Hh O;have HRS:=Hh J;have I:=Hh hrl;have s1:IntKind.i64.wrap (i-x.base)=i-x.base:=IntWalk.i64_in _ (by omega);have V:∀m∈r,m.b.length<=8192:=fun m hm=>by
  have hm2:m∈ms:=by rw[s]at hm;exact List.mem_of_mem_drop (List.mem_of_mem_take hm)
  have hm3:m.it∈x.l:=by rw[<-h.its];exact List.mem_map_of_mem hm2
  exact((br _).1 (hg.its _ hm3)).2.2
 have HBL:=Hh V;have hN4:(N:Int)<=4096:=by omega
 have hmin:min M (ms.length-K)=N:=hN.symm;clear hN;clear h hl H g hL h3 e0 e1 e2 O J hrl s V;go_enter Tryz.func69,Tryz.ntmps69
 go_wp2_with fail;refine(cC base p x hg la lc ms _ HH.out).mono ?_;rintro e w1 ⟨rfl,m1,rfl⟩;rw[<-HL.out];go_wp2_with fail;clear c0 c1 c2 cf;obtain⟨d0,d1,d2, -⟩:=(HH.out.drewN m1).cells;refine fx (S:=fun w'=>w'.cell? ⟨p,0,none⟩=some (.int .i64 x.base)/\w'.cell? ⟨p,2,none⟩=some (.slice la ms.length lc)) ?_;have f:(w.drewN m1).drew.cell? ⟨p,0,none⟩=some (.int .i64 x.base)/\(w.drewN m1).drew.cell? ⟨p,2,none⟩=some (.slice la ms.length lc):=⟨d0,d2⟩
 refine hT 0 27 f ?_;refine hT 1 28 f ?_;refine hT 2 29 f ?_;refine hT 3 30 f ?_;refine hT 4 31 f ?_;refine hT 5 32 f ?_;refine hT 6 33 f ?_;refine hT 7 34 f ?_;refine hT 8 35 f ?_;refine hT 9 36 f ?_;refine hT 10 37 f ?_;refine hT 11 38 f ?_;refine hT 12 7 f ?_;refine dc ?_;clear f d0 d1 d2;obtain⟨W,hW⟩:∃W,W=(w.drewN m1).drew:=⟨_,rfl⟩
 refine(show Exit.then _ _ _ _ (w.drewN m1).drew from ?_);rw[<-hW];have X:Below w.heap.size w W:=by rw[hW];exact(below_drewN _ _).trans (Below.refl _ _).drew
 have HF0:=Hh (show sR r w W W 0 none 0 [] from⟨by omega,rfl,(lZ w).below X,by simp,X⟩);clear hW X;go_wp2_with fail;go_loopw [8,46] (fun av iv wr=>∃(j:Nat) (a:Option Addr) (c:Nat) (os:List af),av= .slice a j c/\iv= .int .i64 j/\sR r w W wr j a c os) (fun _ iv _=>N-(intOf iv).toNat)
 case atStart=>exact⟨0,none,0,[],rfl,rfl,HF0.out⟩
 case round=>
  obtain⟨j,a,c,os,rfl,rfl,hI⟩:=hrel;have HI:=Hh hI;have hjle:=hI.le;have hwr:=hI.bel.size;have F:=hI.ln;rw[I.out]at hjle;clear hI;by_cases hlt:j<N
  ·obtain⟨d,G⟩:∃d,r[j]? =some d:=⟨_,List.getElem?_eq_getElem (by rw[I.out];exact hlt)⟩
   have B:bd wr w.heap.size A N (lc-K) r:=HIT.out.below HI.out.bel (Nat.le_refl _);obtain⟨b,o,e9,hb9,k0,k1⟩:=B.cell G;have z:d∈r:=List.mem_of_getElem? G;have C:=B.bs d z;have U:d.n=d.b.length:=C.hlen.symm;have V:d.b.length<=8192:=HBL.out d z;rw[U]at k1;have c0:wr.cell? ⟨b,o+j*2,none⟩=some (.int .i64 d.t):=k0;have c1:wr.cell? ⟨b,o+j*2+1,none⟩=some (.slice d.a d.b.length d.c):=k1;have HBS9:=Hh (show aM wr wr.heap.size d.a d.b.length d.c d.b by rw[<-U];exact C.mono hwr);have HMI:=Hh G;clear k0 k1 G C U z B hA;subst e9;have hi0:(0:Int)<=(j:Int):=by omega
   have hi1:(j:Int)<(N:Int):=by omega
   go_wp2_with fail;have Y:Below wr.heap.size wr (wr.alloc (.cells #[.int .i64 d.t, .slice d.a d.b.length d.c] 40)):=(Below.refl _ _).alloc (Nat.le_refl _) _;refine(fA d.t d.a d.c d.b _ ((HBS9.out.below Y (Nat.le_refl _)).mono (by simp))).mono ?_;rintro e P ⟨a3,c3,rfl,y,Z⟩;have hs3:=Z.size;simp only[World.size_alloc]at hs3;have HB3:=Hh (Y.trans (Z.mono (by simp)));have HM3:=Hh (show OwnBs 5 P ⟨d.t,a3,d.b.length,c3,d.b⟩ from OwnBs.of_own y (by omega));have HO3:=Hh (HI.out.own.below HB3.out);have T:=HO3.out.own;rw[F]at T;have HOJ:=Hh T;clear Y Z y T c0 c1;go_wp2_with (at_builtin;refine bU _ rfl (.tmp 50) (.tmp 53) 30 rfl w.heap.size 40 i0 (.agg #[.int .i64 0, .slice none 0 0]) 2 32 Tryz.underlying30 hi hz0 hz1 hz2 rfl (by decide) (.slice a j c) j _ rfl (HOJ.out.alloc _) (P.heap.size+1) (some ⟨P.heap.size,0,none⟩) 1 1 [.int .i64 d.t, .slice a3 d.b.length c3] rfl (cw P #[.int .i64 d.t, .slice a3 d.b.length c3] 40 2 rfl) (by intro u hu;simp at hu;rcases hu with rfl | rfl<;>rfl) (by unfold maxLen;omega) (by omega) (by simp;omega) ?_;intro a6 c6 w6 v q hat6);have D:Below P.heap.size P (P.alloc (.cells #[.int .i64 d.t, .slice a3 d.b.length c3] 40)):=(Below.refl _ _).alloc (Nat.le_refl _) _;have HFN:=Hh (show sR r w W w6 (j+1) a6 c6 (os++ [⟨d.t,a3,d.b.length,c3,d.b⟩]) from by
    have hln:j<r.length:=by rw[I.out];exact hlt
    have e:r[j]=d:=by have h9:=HMI.out;simpa[List.getElem?_eq_getElem hln] using h9
    refine⟨by omega,by simp;omega,?_,?_,?_⟩
    ·exact HO3.out.next (m:=⟨d.t,a3,d.b.length,c3,d.b⟩) HM3.out D (by rw[F];exact v) (by rw[F];exact q)
    ·rw[List.take_succ_eq_append_getElem hln,List.map_append,List.map_append,HI.out.its,e];rfl
    ·refine((HI.out.bel.trans (HB3.out.mono hwr)).trans (D.mono (by omega))).grown q (by simp;omega) (fun k hk=>(own_lt HOJ.out hk).1))
   clear v q hat6 D;go_wp2;go_roundw
   case rel=>exact⟨j+1,a6,c6,_,rfl,by go_num,HFN.out⟩
   case measure=>simp[intOf];omega
  ·have hjN:j=N:=by omega
   subst hjN;go_wp2;go_ret;subst F;exact⟨a,c,os,rfl,HI.out.own,by rw[HI.out.its,HRS.out,List.take_of_length_le (by rw[I.out];omega)],HI.out.bel⟩
end Go.Proofs.YtogcnfhmcpkdcaaGreat
