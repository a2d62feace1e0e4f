/-
Rows of rows of bytes and rows of truths, opened (RaftAlone).
-/
import Derived.Test.YtogcnfhmcpkdcaaGreatOpenO
import Derived.Test.YtogcnfhmcpkdcaaGreatRaftMem
import Derived.Test.YtogcnfhmcpkdcaaGreatRaftM3
namespace Go.Proofs.YtogcnfhmcpkdcaaGreat
open Go.ChangeShapes Go.WideShapes Go.ChangeAt Go.RowKit
set_option maxRecDepth 100000
set_option linter.unusedVariables false
set_option linter.unusedSimpArgs false
theorem uU{z:Int}(h:(Lit.int .u8 z).wf=true):∃n:Nat,z=(n:Int)/\n<256:=by have a:IntKind.u8.min=0:=rfl;have b:IntKind.u8.max=255:=rfl;simp only[Lit.wf,Bool.and_eq_true,decide_eq_true_eq]at h;exact⟨z.toNat,by omega,by omega⟩
theorem mz:∀(a:List Int),(∀z∈a,(Lit.int .u8 z).wf=true)->∃l:List UInt8,a.map (Value.int .u8)=l.map bv/\a.length=l.length
 | [],_=>⟨[],rfl,rfl⟩
 | z::a,h=>by
  obtain⟨n,rfl,e⟩:=uU (h z (by simp));obtain⟨l,d,c⟩:=mz a (fun y b=>h y (by simp[b]));refine⟨UInt8.ofNat n::l,?_,by simp[c]⟩;simp only[List.map_cons,d]
  congr 1
  simp[bv];omega
theorem yh:Tryz.prog.cellsOf 5=1:=by kernel_rfl
theorem xu:Tryz.prog.cellsOf 27=1:=by kernel_rfl
theorem wX{α:Type}{a:Nat}{cell:α->List Value}{P:α->Prop}{R:List Value->Prop}(e:∀cs,R cs->∃m,cs=cell m/\P m):
  ∀(n:Nat) (xs:List Value),xs.length=n*a->(∀i,i<n->R ((xs.drop (i*a)).take a))->∃ms:List α,ms.length=n/\xs=ms.flatMap cell/\∀m∈ms,P m:=by
 intro n
 induction n with
 | zero=>intro xs c _;exact⟨[],rfl,by simpa using c,by simp⟩
 | succ n ih=>
  intro xs c d;obtain⟨m,k,j⟩:=e _ (d 0 (by omega));obtain⟨ms,h,g,f⟩:=ih (xs.drop a) (by simp[c,Nat.add_mul]) (fun i l=>by
   have:=d (i+1) (by omega);rw[List.drop_drop]
   rwa [show a+i*a=(i+1)*a by rw[Nat.add_mul];omega])
  refine⟨m::ms,by simp[h],?_,?_⟩
  ·rw[List.flatMap_cons,<-g,<-k]
   simp
  ·intro x b;simp at b;rcases b with rfl | b
   ·exact j
   ·exact f x b
section
variable {H : Type} {enc : TypeId × Value -> H} {w : World} {cs : List Value}
theorem Rd.bytes(h:Rd enc Tryz.prog w 27 cs):∃(a:Option Addr) (n c:Nat) (l:List UInt8),cs= [.slice a n c]/\n=l.length/\(n<=140737488355328->aM w w.heap.size a n c l):=by
 obtain⟨a,n,c,j,rfl,b,k⟩:=h.slice Tryz.underlying27 yh (by omega);have d:j.length=n:=by simpa using b.hlen
 have e:∀i (m:i<j.length),∃z,j[i]= .int .u8 z/\(Lit.int .u8 z).wf=true:=by intro i m;obtain⟨z,f,o⟩:=(k i (by omega)).int Tryz.underlying5;rw[Nat.mul_one,List.drop_eq_getElem_cons m]at f;simp only[List.take_succ_cons,List.take_zero,List.cons.injEq,and_true]at f;exact⟨z,f,o⟩
 have p:∃g:List Int,j=g.map (Value.int .u8)/\∀z∈g,(Lit.int .u8 z).wf=true:=by
  clear b k d
  induction j with
  | nil=>exact⟨[],rfl,by simp⟩
  | cons x j ih=>obtain⟨z,f,o⟩:=e 0 (by simp);obtain⟨g,t,s⟩:=ih (fun i m=>by have:=e (i+1) (by simpa using m);simpa using this);simp at f;exact⟨z::g,by simp[f,t],by simpa using⟨o,s⟩⟩
 obtain⟨g,rfl,q⟩:=p;obtain⟨l,f,o⟩:=mz g q;rw[f]at b;have v:g.length=n:=by simpa using d
 exact⟨a,n,c,l,rfl,by omega,fun r=>ew b r⟩
end
theorem tH:Tryz.prog.cellsOf 60=4:=by kernel_rfl
structure dB where
 d:Int
 i:Int
 k:Int
 a:Option Addr
 c:Nat
 b:List UInt8
def dB.cells(m:dB):List Value:= [.int .i64 m.d, .int .i64 m.i, .int .i64 m.k, .slice m.a m.b.length m.c]
def gQ(l:List dB):List Value:=l.flatMap dB.cells
def dB.Is(w:World)(B:Nat)(m:dB):Prop:=m.b.length<=140737488355328->aM w B m.a m.b.length m.c m.b
theorem gP(l:List dB):(gQ l).length=l.length*4:=by
 induction l with
 | nil=>rfl
 | cons x l ih=>simp only[gQ,List.flatMap_cons,List.length_append,List.length_cons]at ih ⊢;rw[ih];simp[dB.cells];omega
theorem kY:∀(l:List dB) (i:Nat) (m:dB),l[i]? =some m->∀j,j<4->(gQ l)[i*4+j]? =m.cells[j]?
 | [],i,m,h,j,hj=>by simp at h
 | y::l,0,m,h,j,hj=>by
  simp at h;subst h;show(dB.cells y++gQ l)[0*4+j]? =_;rw[List.getElem?_append_left (by simp[dB.cells];omega)]
  congr 1;omega
 | y::l,i+1,m,h,j,hj=>by
  have a:=kY l i m (by simpa using h) j hj;show(dB.cells y++gQ l)[(i+1)*4+j]? =_;rw[List.getElem?_append_right (by simp[dB.cells];omega),<-a]
  congr 1
  simp[dB.cells];omega
section
variable {H : Type} {enc : TypeId × Value -> H} {w : World} {cs : List Value}
theorem Rd.step18(h:Rd enc Tryz.prog w 60 cs):∃m:dB,cs=m.cells/\m.Is w w.heap.size:=by
 obtain⟨o,e⟩:=h.struct Tryz.underlying60;rw[tH]at o;have t:Rd enc Tryz.prog w 3 ((cs.drop 0).take (Tryz.prog.cellsOf 3)):=e 0 _ rfl;have s:Rd enc Tryz.prog w 3 ((cs.drop 1).take (Tryz.prog.cellsOf 3)):=e 1 _ rfl;have r:Rd enc Tryz.prog w 3 ((cs.drop 2).take (Tryz.prog.cellsOf 3)):=e 2 _ rfl;have p:Rd enc Tryz.prog w 27 ((cs.drop 3).take (Tryz.prog.cellsOf 27)):=e 3 _ rfl;rw[yi]at t s r;rw[xu]at p;obtain⟨d,l,_⟩:=t.int Tryz.underlying3;obtain⟨i,j,_⟩:=s.int Tryz.underlying3;obtain⟨k,g,_⟩:=r.int Tryz.underlying3;obtain⟨a,q,c,b,n,rfl,f⟩:=p.bytes
 match cs,o with
 | [x,y,z,v],_=>simp at l j g n;subst l j g n;exact⟨⟨d,i,k,a,c,b⟩,rfl,f⟩
theorem s8{v:Value}{d:DataW H}{ps:List MemPlace}{r:Reach}{base:Nat}(f:Value.okWide Tryz.prog w r base 54 v)
 (h:DataW.Trod enc Tryz.prog w 0 (fun _=>true) true 54 v d ps):∃(a:Option Addr) (c:Nat) (l:List dB),v= .slice a l.length c/\SlAt w w.heap.size 4 a l.length c (gQ l)/\∀m∈l,m.Is w w.heap.size:=by
 obtain⟨a,n,c,j,rfl,b,g⟩:=oO f h Tryz.underlying54 tH (by omega);obtain⟨e,o,i,k⟩:=wX (fun _ h=>Rd.step18 h) n j b.hlen g;subst o;rw[<-show gQ e=e.flatMap dB.cells from rfl]at i;subst i;exact⟨a,c,e,rfl,b,k⟩
end
end Go.Proofs.YtogcnfhmcpkdcaaGreat
namespace Go.Proofs.YtogcnfhmcpkdcaaGreat
open Go.RowKit
set_option linter.unusedVariables false
set_option linter.unusedSimpArgs false
theorem jx{R:aa}(f:aa->Int->aa)(hn:R.n=1)(hm:R.me=0):R.others f=R:=by unfold aa.others;rw[hn];show bI f 1 0 R=R;unfold bI;rw[if_pos hm.symm];rfl
theorem sN(x:Int):cB [x]=x:=by
 unfold cB cU;rw[if_pos (by rfl)]
 simp
theorem qN{R:aa}(b:R.n=1)(hm:R.me=0){m0:Int}{ml:List Int}(a:R.mat=m0::ml):R.look=if R.commit<R.line.last/\(bk R.line R.line.last).1=R.bt then { R with mat:=R.line.last::ml,commit:=R.line.last } else { R with mat:=R.line.last::ml }:=by unfold aa.look;rw[b,hm,a];simp only[Int.toNat_zero,List.set_cons_zero,Int.toNat_one,List.take_succ_cons,List.take_zero,sN]
def oo(i:Nat):aa:={ aa.new 0 1 with ticks:=i }
def n8:aa:=⟨0,1,1,0,⟨0,0,[(1,[])]⟩,[],2,0,1,0,0,[1,0,0,0,0,0,0],[1,0,0,0,0,0,0],[1,1,1,1,1,1,1],false,[bT 1 0,dy 1 (1,[])],[]⟩
def vq:aa:=⟨0,1,1,0,⟨0,0,[(1,[]),(1,[5])]⟩,[],2,0,2,1,0,[1,0,0,0,0,0,0],[2,0,0,0,0,0,0],[1,1,1,1,1,1,1],false,[bT 1 0,dy 1 (1,[]),dy 2 (1,[5])],[]⟩
theorem vm(i:Nat)(hi:i<19):(oo i).tick=oo (i+1):=by
 unfold aa.tick;rw[if_neg (by intro h;have a:(0:Int)=2:=h.1;omega),if_neg (by intro h;have a:(20:Int)+2*0<=(i:Int)+1:=h.2;omega)];unfold oo
 simp
theorem ui:(oo 19).tick=n8:=by unfold aa.tick;rw[if_neg (by intro h;have a:(0:Int)=2:=h.1;omega),if_pos (by constructor<;>decide)];unfold aa.stand;rw[if_neg (by decide),jx _ rfl rfl];unfold aa.count;simp only;rw[if_pos (by decide)];unfold aa.goLead;rw[qN (m0:=0) (ml:= [0,0,0,0,0,0]) (by rfl) (by rfl) (by rfl)];rw[if_pos (by constructor<;>decide)];rw[jx _ (by rfl) (by rfl)];rfl
theorem vo:n8.next=({ n8 with applied:=1 },some (1,(1,[]))):=by rfl
theorem vn:({ n8 with applied:=1 }:aa).propose [5]=(vq,2,0):=by unfold aa.propose;rw[if_neg (by decide),if_neg (by decide),if_neg (by decide)];simp only;rw[if_neg (by decide)];rw[qN (m0:=1) (ml:= [0,0,0,0,0,0]) (by rfl) (by rfl) (by rfl)];rw[if_pos (by constructor<;>decide)];rw[jx _ (by rfl) (by rfl)];rfl
def uk(i:Nat):aa:=if i<20 then oo i else n8
theorem uj(i:Nat)(h:i<20):(uk i).tick=uk (i+1):=by
 unfold uk;rw[if_pos h];by_cases a:i<19
 ·rw[if_pos (by omega)];exact vm i a
 ·have:i=19:=by omega
  subst this;rw[if_neg (by omega)];exact ui
theorem vp:(⟨0,0,[]⟩:ae).Good:=⟨by decide,by decide,by decide,by decide,by decide,by decide,by simp⟩
theorem oP:n8.line.Good:=⟨by decide,by decide,by decide,by decide,by decide,by decide,by intro it a;simp[n8]at a;subst a;rfl⟩
structure oA (w:World) (p:Nat) (R:aa) (M:ay) (W:World):Prop where
 rf:ao W p R M
 bel:Below w.heap.size w W
 inn:∀k,M.own p k->w.heap.size<=k
theorem oA.touch{w W W':World}{p:Nat}{R R':aa}{M M':ay}(h:oA w p R M W)(hr:ao W' p R' M')(ht:ah p M M' W W'):oA w p R' M' W':=⟨hr,h.bel.trans (ht.below h.inn h.bel.size),ht.inn h.inn h.bel.size⟩
theorem oA.below{w W W':World}{p:Nat}{R:aa}{M:ay}(h:oA w p R M W)(hb:Below W.heap.size W W'):oA w p R M W':=⟨h.rf.below hb,h.bel.trans (hb.mono h.bel.size),h.inn⟩
theorem uR:∀x∈aW,0<=x/\x<=(1099511627777:Int):=by intro x a;simp[aW]at a;subst a;decide
set_option maxRecDepth 100000 in
set_option maxHeartbeats 2000000 in
theorem ko(w:World):Calls Tryz.prog 8 #[] w fun e w'=>e= .returned (.bool true)/\Below w.heap.size w w':=by
 go_enter Tryz.func8,Tryz.ntmps8
 go_wp2_with fail;refine(i6 0 1 (by decide) (by decide) (by decide) (by decide) w).mono ?_;rintro e C ⟨p,rfl,S,a⟩;have L:=Hh (show oA w p (aa.new 0 1) S C from⟨a.1,a.2.1,a.2.2⟩);clear a;go_wp2_with fail;refine(rX 1 1 (by decide) C).mono ?_;rintro e w2 ⟨rfl,rfl⟩;go_wp2_with fail;obtain⟨O,rfl⟩:∃O:World,O=C:=⟨_,rfl⟩
 go_loopw [2] (fun D wr=>∃(i:Nat) (M:ay),D= .int .i64 i/\i<=20/\oA w p (uk i) M wr) (fun D _=>20-(intOf D).toNat)
 case atStart=>exact⟨0,S,rfl,by omega,L.out⟩
 case round=>
  obtain⟨i,M,rfl,hi,s⟩:=hrel;have T:=Hh s;clear s;by_cases d:i<20
  ·have W:decide ((i:Int)<20)=true:=by simp;omega
   have hW:uk i=oo i:=by unfold uk;rw[if_pos d]
   have h:=uj i d;rw[hW]at h;have H:=Hh h;have f:=Hh (show oA w p (oo i) M wr by have m:=T.out;rw[hW]at m;exact m);clear h hW;go_wp2_with fail;refine(jZ f.out.rf).mono ?_;rintro e U ⟨rfl,rfl⟩;rw[show(oo i).role=0 from rfl];go_wp2_with fail;refine(gD f.out.rf).mono ?_;rintro e U ⟨rfl,rfl⟩;rw[show(oo i).lead= -1 from rfl];go_wp2_with fail;refine(jY p (oo i) M (by show(1:Int)<=1;decide) (by show(1:Int)<=7;decide) (by show(0:Int)<=0;decide) (by show(0:Int)<1;decide) (by show(0:Int)<=0;decide) (by show(0:Int)<=1099511627776;decide) vp uR (by show(0:Int)<=(i:Int);omega) (by show(i:Int)<=1000;omega) (by show 0<=999980000;decide) (by show 0<=999998000;decide) wr f.out.rf).mono ?_;rintro e w4 ⟨rfl,Z,k,q⟩;rw[H.out]at k;have J:=Hh (f.out.touch k q);clear k q;go_wp2;go_roundw
   case rel=>exact⟨i+1,Z,by go_num,d,J.out⟩
   case measure=>simp[intOf];omega
  ·have W:decide ((i:Int)<20)=false:=by simp;omega
   have F:i=20:=by omega
   subst F;have y:=Hh (show oA w p n8 M wr from T.out);clear d;go_wp2_with fail;refine(qw p n8 M oP (by decide) (by decide) (by decide) wr y.out.rf).mono ?_;rintro e c G;unfold kZ at G;rw[vo]at G;obtain⟨n,c5,rfl, -,Y,r,o⟩:=G;have z:=Hh (y.out.touch r o);obtain⟨V,hV⟩:∃V,V=(c.alloc (.cells #[.int .i64 1, .slice n 0 c5] 40)).alloc (.cells #[.int .u8 5] 5):=⟨_,rfl⟩
   have t:Below c.heap.size c V:=by rw[hV];exact((Below.refl _ _).alloc (Nat.le_refl _) _).alloc (by simp) _
   have v:=Hh (z.out.below t);have A:=Hh (show V.heap[c.heap.size]? =some (.cells #[.int .i64 1, .slice n 0 c5] 40 (0,0)) by rw[hV];exact(((Below.refl _ _).alloc (Nat.le_refl (c.alloc (.cells #[.int .i64 1, .slice n 0 c5] 40)).heap.size) _).block _ (by simp)).trans (heap_alloc_new c _))
   have N:=Hh (show aM V V.heap.size (some ⟨c.heap.size+1,0,none⟩) 1 1 [5] by rw[hV];have m:=dr (c.alloc (.cells #[.int .i64 1, .slice n 0 c5] 40)) (.int .u8 5) 5;have X:=ew (l:= [5]) m (by omega);simpa using X)
   have HV:=Hh hV;clear r o hV t;go_wp2_with fail;rw[<-HV.out];refine(i5 p { n8 with applied:=1 } Y _ 1 [5] (by decide) (by decide) (by decide) (by decide) oP (by intro x R;simp[n8]at R;subst R;decide) (by decide) (by decide) _ N.out v.out.rf).mono ?_;rintro e P ⟨rfl,M6,j,g⟩;rw[vn]at j ⊢;have b:=Hh (v.out.touch j g);have I:=Hh (show P.heap[c.heap.size]? =some (.cells #[.int .i64 1, .slice n 0 c5] 40 (0,0)) from(g.block _ (by have:=(Array.getElem?_eq_some_iff.1 A.out).1;omega) (fun m=>z.out.rf.notNew (Nat.le_refl _) m)).trans A.out);have b1:P.cell? ⟨c.heap.size,1,none⟩=some (.slice n 0 c5):=cell_of_row _ _ 1 _ _ _ I.out;clear j g;go_wp2_with fail;refine(jZ b.out.rf).mono ?_;rintro e B ⟨rfl,rfl⟩;rw[show vq.role=2 from rfl];go_wp2_with fail;refine(gD b.out.rf).mono ?_;rintro e B ⟨rfl,rfl⟩;rw[show vq.lead=0 from rfl];go_wp2_with fail;refine(gZ b.out.rf).mono ?_;rintro e B ⟨rfl,rfl⟩;rw[show vq.bt=1 from rfl];go_wp2_with fail;refine(rZ b.out.rf).mono ?_;rintro e B ⟨rfl,rfl⟩;rw[show vq.commit=2 from rfl];go_wp2;go_ret;exact⟨rfl,b.out.bel⟩
end Go.Proofs.YtogcnfhmcpkdcaaGreat
