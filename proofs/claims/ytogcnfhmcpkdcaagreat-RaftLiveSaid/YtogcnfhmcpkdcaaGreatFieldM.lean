/-
Contract of Eye.Num: a number is read, or refused, as the plain law says.
-/
import Derived.Test.YtogcnfhmcpkdcaaGreatEyeM
import Derived.Laws.Bits64b
import Derived.Defers
import Derived.Recover
import Derived.Deep.Onto
set_option maxHeartbeats 2000000
set_option maxRecDepth 100000
namespace Go.Proofs.YtogcnfhmcpkdcaaGreat
open Go.RowKit
set_option linter.unusedVariables false
def kD{α:Type}(q:Nat)(r:bO α)(w w':World)(e:Ending)(is:α->Prop):Prop:=
 fV q w w'/\match r with
  | .err x=>e=bK x
  | .ok v rest=>is v/\bF w' q rest
theorem tI(l:List UInt8)(c:UInt8):be (l++ [c])=be l*256+c.toNat:=by simp[be]
theorem yT(l:List UInt8):be l<256 ^ l.length:=by
 induction l using lW with
 | h0=>simp[be]
 | h1 l c ih=>rw[tI];simp[Nat.pow_succ];have:=c.toNat_lt;omega
theorem xH(v c:Nat)(hv:v<2 ^ 56)(hc:c<256):bits BinOp.or IntKind.u64 ((v:Int)*256) (c:Int)=((v*256+c:Nat):Int):=by
 rw[show(v:Int)*256=((v*256:Nat):Int) by omega,bits_or_u64_nat _ _ (by omega) (by omega)]
 congr 1
 rw[show v*256=2 ^ 8*v by omega,Nat.two_pow_add_eq_or_of_lt (by omega)]
theorem dK(q g:Nat)(l:List UInt8)(w:World)(h:bF w q l):
  Calls Tryz.prog 96 #[.pointer (some ⟨q,0,none⟩), .int .u64 g] w fun e w'=>kD q (ak g l) w w' e fun v=>e= .returned (.int .u64 v):=by
 cases l with
 | nil=>
  go_enter Tryz.func96,Tryz.ntmps96
  go_wp2_with fail;refine(mp q 1 _ _ h).mono ?_;rintro e w1 ⟨X,z, -⟩;obtain rfl:=z (by simp);go_wp2;exact⟨rfl,X,rfl⟩
 | cons k r=>
  have hk8:=k.toNat_lt;obtain⟨N,hN⟩:∃N,N=ak g (k::r):=⟨_,rfl⟩
  rw[<-hN];have HN:=Hh hN;clear hN;go_enter Tryz.func96,Tryz.ntmps96
  go_wp2_with fail;refine(mp q 1 _ _ h).mono ?_;rintro e w1 ⟨X, -,i⟩;obtain⟨a,rfl,F,B⟩:=i (by simp);simp only[List.drop_succ_cons,List.drop_zero,List.take_succ_cons,List.take_zero]at F B;obtain⟨b,o,rfl,hbb,D⟩:=F.hat (by omega);have hc0:w1.cell? ⟨b,o,none⟩=some (.int .u8 (k.toNat:Int)):=by have h9:=D 0 (by omega);rw[Nat.add_zero]at h9;exact h9
  clear D F i;have HB:=Hh X;clear X h;by_cases Y:8<k.toNat
  ·have b1:decide ((8:Int)<(k.toNat:Int))=true:=by simp;omega
   have hN:N= .err 3:=by rw[HN.out];simp[ak,Y]
   subst hN;go_wp2_with fail;refine(dY _ 3 (by decide) _).mono ?_;rintro e w2 ⟨rfl,rfl⟩;go_wp2;exact⟨rfl,HB.out,rfl⟩
  ·have b1:decide ((8:Int)<(k.toNat:Int))=false:=by simp;omega
   go_wp2_with fail;refine(mp q k.toNat _ _ B).mono ?_;rintro e w2 ⟨P,z,i⟩;have A:=Hh (HB.out.trans P);clear HB P;by_cases t:r.length<k.toNat
   ·obtain rfl:=z t;have hN:N= .err 2:=by rw[HN.out];simp[ak,Y,t]
    subst hN;go_wp2;exact⟨rfl,A.out,rfl⟩
   ·obtain⟨a2,rfl,s,m⟩:=i (by omega);clear z i;obtain⟨K,I⟩:∃K,K=k.toNat:=⟨_,rfl⟩
    obtain⟨f,x⟩:∃f,f=r.take k.toNat:=⟨_,rfl⟩
    have R:N=if 0<K/\f.getD 0 0=0 then .err 3 else if g<be f then .err 5 else .ok (be f) (r.drop K):=by
     rw[HN.out,I,x];simp only[ak,Y,t,if_false];by_cases h0:0<k.toNat
     ·rw[show(r.take k.toNat).getD 0 0=r.getD 0 0 by simp[List.getD,List.getElem?_take_of_lt h0]]
     ·simp[h0]
    have H:=Hh R;have M:=s.hlen;rw[<-x,<-I]at s;rw[<-x,<-I]at M;rw[<-I]at m;rw[<-I];have HE:=Hh m;have h8':K<=8:=by omega
    clear I x R HN hc0 m b1 Y t hk8;go_wp2_with fail;go_loopw [6,22] (fun v j wr=>∃d:Nat,d<=K/\j= .int .i64 d/\v= .int .u64 (be (f.take d):Nat)/\wr=w2/\(0<d->f.getD 0 0≠0))
     (fun _ j _=>K-(intOf j).toNat)
    case atStart=>exact⟨0,by omega,rfl,rfl,rfl,fun h=>absurd h (by omega)⟩
    case round=>
     obtain⟨d,hjj,rfl,rfl,rfl,y⟩:=hrel;by_cases hlt:d<K
     ·obtain⟨b3,o3,rfl,hb3,O⟩:=s.hat (by omega);have hc4:=O d hlt;obtain⟨c,D⟩:∃c,c=f.getD d 0:=⟨_,rfl⟩
      rw[<-D]at hc4;have J:f.take (d+1)=f.take d++ [c]:=by rw[D,List.take_succ_eq_append_getElem (by omega)];simp[List.getD,List.getElem?_eq_getElem (show d<f.length by omega)]
      have G:be (f.take (d+1))=be (f.take d)*256+c.toNat:=by rw[J,tI]
      have hvl:=yT (f.take d);have p:be (f.take d)<2 ^ 56:=by
       have S:(f.take d).length<=7:=by simp;omega
       have Z:(256:Nat) ^ (f.take d).length<=256 ^ 7:=Nat.pow_le_pow_right (by omega) S;have h3:(256:Nat) ^ 7=2 ^ 56:=by decide
       omega
      obtain⟨v,hv⟩:∃v,v=be (f.take d):=⟨_,rfl⟩
      rw[<-hv]at G p ⊢;have hcl:=c.toNat_lt;have W:=Hh G;have HC:=Hh D;clear hvl hv J O G D;have hk0:(0:Int)<=(d:Int):=by omega
      have hk1:(d:Int)<(K:Int):=by omega
      by_cases C:d=0
      ·have t1:((d:Int)==0)=true:=by simp;omega
       have V:f.getD 0 0=c:=by rw[HC.out,C]
       have HJ:=Hh C;have U:=Hh V;clear V C y;by_cases n:c=0
       ·have t2:((c.toNat:Int)==0)=true:=by rw[n];rfl
        have hN:N= .err 3:=by rw[H.out,if_pos ⟨by omega,by rw[U.out,n]⟩]
        subst hN;have T:=Hh n;clear n;go_wp2_with fail;refine(dY _ 3 (by decide) _).mono ?_;rintro e w3 ⟨rfl,rfl⟩;go_wp2;exact⟨rfl,A.out,rfl⟩
       ·have t2:((c.toNat:Int)==0)=false:=by
         have:c.toNat≠0:=fun e=>n (UInt8.toNat_inj.1 e)
         simp;omega
        have T:=Hh n;clear n;go_wp2_with fail;go_roundw
        case rel=>exact⟨d+1,by omega,by go_num,by rw[W.out,xH _ _ p (by omega)],trivial,fun _=>by rw[U.out];exact T.out⟩
        case measure=>simp[intOf];omega
      ·have t1:((d:Int)==0)=false:=by simp;omega
       go_wp2_with fail;go_roundw
       case rel=>exact⟨d+1,by omega,by go_num,by rw[W.out,xH _ _ p (by omega)],trivial,fun _=>y (by omega)⟩
       case measure=>simp[intOf];omega
     ·have hjK:d=K:=by omega
      subst hjK;have hrt:f.take d=f:=List.take_of_length_le (by omega);rw[hrt];by_cases L:g<be f
      ·have t1:decide ((g:Int)<(be f:Int))=true:=by simp;omega
       have hN:N= .err 5:=by rw[H.out,if_neg (by rintro⟨S,Z⟩;exact y S Z),if_pos L]
       subst hN;go_wp2_with fail;refine(dY _ 5 (by decide) _).mono ?_;rintro e w3 ⟨rfl,rfl⟩;go_wp2;exact⟨rfl,A.out,rfl⟩
      ·have t1:decide ((g:Int)<(be f:Int))=false:=by simp;omega
       have hN:N= .ok (be f) (r.drop d):=by rw[H.out,if_neg (by rintro⟨S,Z⟩;exact y S Z),if_neg L]
       subst hN;go_wp2;go_ret;exact⟨A.out,rfl,HE.out⟩
theorem qq(rb:Nat)(w:World):
  CallsD Tryz.prog 114 #[.pointer (some ⟨rb,0,none⟩)] .returning w fun e u' w'=>e= .returned (.tuple #[])/\u'= .returning/\w=w':=by
 have a:∀w:World,(binOp BinOp.eql 20 .nilIface .nilIface).run Tryz.prog w= .ok (.bool true) w:=fun _=>by kernel_rfl
 refine callsD_of_wpS Tryz.func114 rfl fun c d b=> ?_
 apply wpS_seq;apply wpS_region;simp[wpOpsS,go_sem,recoverD,b,Tryz.ntmps114,Exit.thenS];apply wpS_seq;apply wpS_seq;apply wpS_region;simp[wpOpsS,go_sem,Exit.thenS,a];refine wpS_cond (t:=true) (by simp[Act.eval,Array.replicate]) ?_;simp only[if_true];refine wpS_of_wp (wp_ret ?_);cases c
 simp_all [bodyPostS,results,Tryz.results114,Exit.thenS]
theorem rV(rb:Nat)(x:Int)(v:Value)(w:World)(hrb:rb<w.heap.size)(hc:w.cell? ⟨rb,0,none⟩=some v)(hz:w.frozen? ⟨rb,0,none⟩=false):
  CallsD Tryz.prog 114 #[.pointer (some ⟨rb,0,none⟩)] (.panicking [{ v:= .iface 149 (.agg #[.int .i64 x]),recovered:=false }]) w fun e u' w'=>
   e= .returned (.tuple #[])/\u'= .panicking [{ v:= .iface 149 (.agg #[.int .i64 x]),recovered:=true }]/\w'.cell? ⟨rb,0,none⟩=some (.int .i64 x)/\fV rb w w':=by
 refine callsD_of_wpS Tryz.func114 rfl fun c d a=> ?_
 apply wpS_seq;apply wpS_region;simp[wpOpsS,go_sem,recoverD,a,Tryz.ntmps114,Exit.thenS];apply wpS_seq;apply wpS_seq;apply wpS_region;simp[wpOpsS,go_sem,Exit.thenS];refine wpS_cond (t:=false) (by simp[Act.eval,Array.replicate]) ?_;simp only[Bool.false_eq_true,if_false];refine wpS_of_wp (wp_skip ?_);simp only[Exit.thenS];refine wpS_of_wp ?_;have b:∀(w:World) (v:Value),Sem.run Tryz.prog (Instr.typeAssert (.iface 149 v) 20 149 true) w= .ok (.tuple #[v, .bool true]) w:=fun _ _=>by kernel_rfl
 simp[Array.replicate];go_wp2;refine⟨rfl,_,rfl, .tuple #[],by simp[results,Tryz.results114,go_sem],rfl,rfl,?_,?_⟩
 ·exact(World.cell?_alloc_past _ _ _ (by simpa using hrb)).trans (World.cell?_setCell_same _ _ _ hc)
 ·exact(fV.setCell _ _ _).trans (fV.ofBelow (by simpa using hrb) ((Below.refl _ _).alloc (Nat.le_refl _) _))
def l9(w:World)(q n:Nat):Prop:=q<w.heap.size/\∃a c,w.cell? ⟨q,0,none⟩=some (.slice a n c)
theorem bF.len{w:World}{q:Nat}{l:List UInt8}(h:bF w q l):l9 w q l.length:=by obtain⟨b,a,n,c,e,_,d⟩:=h;have:=d.hlen;subst this;exact⟨b,a,c,e⟩
theorem vS(q n:Nat)(w:World)(h:l9 w q n):
  Calls Tryz.prog 115 #[.pointer (some ⟨q,0,none⟩)] w fun e w'=>e= .returned (.int .i64 n)/\w=w':=by
 obtain⟨b,a,c,d⟩:=h;go_enter Tryz.func115,Tryz.ntmps115
 go_wp2;go_ret;exact⟨rfl,rfl⟩
def Left(q:Nat)(e:Ending)(w':World)(x:Int):Prop:=(e=bK x/\x≠0)\/(e= .returned (.tuple #[])/\∃rest:List UInt8,l9 w' q rest.length/\x=if rest= [] then 0 else 3)
theorem iR{P : Program}{f : FuncId}{a : Func}{c : Code}(b : P.funcs[f]? = some a)(hname : (a.name == "runtime.NumGoroutine") = false)(hb : a.body = some c)(args : Array Value)(w : World) :
  Sem.run P (callFunc f args) w= .ok (.enter f args) w:=by
 have d : a.name ≠ "runtime.NumGoroutine" := by simpa using hname
 simp[callFunc,b,d,hb]
theorem bF.fresh{w:World}{a:Option Addr}{n c:Nat}{l:List UInt8}(h:aM w w.heap.size a n c l)(t:TypeId):bF (w.alloc (.cells #[.slice a n c] t)) w.heap.size l:=⟨by simp,a,n,c,by simp[go_sem],by simp[go_sem],(h.below ((Below.refl _ w).alloc (Nat.le_refl _) _) (Nat.le_refl _)).mono (by simp)⟩
theorem pd(l:List UInt8)(a:Option Addr)(n c:Nat)(f:FuncId)(hf:∀args w,Sem.run Tryz.prog (callFunc f args) w= .ok (.enter f args) w)(first cap:Array Value)(w:World)(h:aM w w.heap.size a n c l)
 (R:Nat->World->World->Int->Prop)
 (G:∀q w1,Below w.heap.size w w1->w.heap.size<q->bF w1 q l->Calls Tryz.prog f (first.push (.pointer (some ⟨q,0,none⟩))++cap) w1 fun e w'=>w1.heap.size<=w'.heap.size/\(∀k,w.heap.size<=k->k<w1.heap.size->k≠q->w'.heap[k]? =w1.heap[k]?)/\∃x,Left q e w' x/\R q w1 w' x):
  Calls Tryz.prog 90 #[.slice a n c, .func (.func f) first cap] w fun e w2=>∃q w1 w' x rb,e= .returned (.int .i64 x)/\Below w.heap.size w w1/\w.heap.size<q/\q<w1.heap.size/\w.heap.size<=rb/\rb<w1.heap.size/\rb≠q/\R q w1 w' x/\fV rb w' w2:=by
 have Z:∀(V:Fn) (first cap:Array Value) (w:World),(Instr.makeFunc V first cap).run Tryz.prog w= .ok (.func V first cap) w:=fun _ _ _ _=>rfl
 have O:=Hh G;clear G;have s:Below w.heap.size w (w.alloc (.cells #[.int .i64 0] 36)):=(Below.refl _ w).alloc (Nat.le_refl _) _;have U:aM (w.alloc (.cells #[.int .i64 0] 36)) (w.alloc (.cells #[.int .i64 0] 36)).heap.size a n c l:=(h.below s (Nat.le_refl _)).mono s.size;have P:=Hh s;have H1:=Hh U;clear s U h;go_enter_defers Tryz.func90,Tryz.ntmps90
 go_wp2_with fail;refine(nI l a n c _ H1.out).mono ?_;rintro e w1 ⟨a1,c1,rfl,I,r, -⟩;have i:w.heap.size<w1.heap.size:=by have:=r.size;simp at this;omega
 have F:w1.cell? ⟨w.heap.size,0,none⟩=some (.int .i64 0):=by rw[r.cell (p:=⟨w.heap.size,0,none⟩) (by simp)];simp[go_sem]
 have D:w1.frozen? ⟨w.heap.size,0,none⟩=false:=by rw[r.frozen (p:=⟨w.heap.size,0,none⟩) (by simp)];simp[go_sem]
 have t:Below w.heap.size w w1:=P.out.trans (r.mono (by simp));have b:=bF.fresh I 151;have o:Below w.heap.size w (w1.alloc (.cells #[.slice a1 n c1] 151)):=t.trans ((Below.refl _ w1).alloc (by omega) _);have d:=Hh o;clear t r o I;have HR:=Hh (O.out w1.heap.size _ d.out i b);clear b;go_wp2_with fail;refine HR.out.mono ?_;rintro e w2 ⟨L,j,x,z,T⟩;simp only[World.size_alloc]at L;have m:w2.heap[w.heap.size]? =w1.heap[w.heap.size]? :=(j w.heap.size (Nat.le_refl _) (by simp;omega) (by omega)).trans (Below.heap_alloc _ _ _ i);have v:w2.cell? ⟨w.heap.size,0,none⟩=some (.int .i64 0):=(World.cell?_of_block m).trans F;have N:w2.frozen? ⟨w.heap.size,0,none⟩=false:=(World.frozen?_of_block m).trans D;have M:w.heap.size<w2.heap.size:=by omega
 have A:=Hh T;clear j m T F D;rcases z with⟨rfl,C⟩ | ⟨rfl,rest,b,B⟩
 ·have Y:=Hh C;clear C;go_wp2_with fail;refine leaves_cons (f:=114) (args:=#[.pointer (some ⟨w.heap.size,0,none⟩)]) (by simp) (by simp[go_sem]) ?_;refine(rV w.heap.size x _ w2 M v N).mono ?_;rintro e S J ⟨rfl,rfl,hc,H⟩;exact⟨.int .i64 x,by simp[results,Tryz.results90,go_sem,hc],_,_,_,_,_,rfl,d.out,i,by simp,Nat.le_refl _,by simp;omega,by omega,A.out,H⟩
 ·have W:=Hh B;clear B;go_wp2_with fail;refine(vS _ _ _ b).mono ?_;rintro e J ⟨rfl,rfl⟩;by_cases g:rest= []
  ·have X:decide (0<rest.length)=false:=by simp[g]
   have B:x=0:=by rw[W.out,if_pos g]
   subst B;clear g;go_wp2_with fail;refine leaves_cons (f:=114) (args:=#[.pointer (some ⟨w.heap.size,0,none⟩)]) (by simp) (by simp[go_sem]) ?_;refine(qq w.heap.size _).mono ?_;rintro e S J ⟨rfl,rfl,rfl⟩;exact⟨.int .i64 0,by simp[results,Tryz.results90,go_sem,World.cell?_setCell_same _ _ _ v],_,_,_,_,_,rfl,d.out,i,by simp,Nat.le_refl _,by simp;omega,by omega,A.out,fV.setCell _ _ _⟩
  ·have X:decide (0<rest.length)=true:=by
    cases rest with
    | nil=>exact absurd rfl g
    | cons y ys=>simp
   have B:x=3:=by rw[W.out,if_neg g]
   subst B;clear g;go_wp2_with fail;refine leaves_cons (f:=114) (args:=#[.pointer (some ⟨w.heap.size,0,none⟩)]) (by simp) (by simp[go_sem]) ?_;refine(qq w.heap.size _).mono ?_;rintro e S J ⟨rfl,rfl,rfl⟩;exact⟨.int .i64 3,by simp[results,Tryz.results90,go_sem,World.cell?_setCell_same _ _ _ v],_,_,_,_,_,rfl,d.out,i,by simp,Nat.le_refl _,by simp;omega,by omega,A.out,fV.setCell _ _ _⟩
theorem mE(l:List UInt8)(k:Nat)(h:k<l.length):l.take (k+1)=l.take k++ [l.getD k 0]:=by rw[List.take_succ_eq_append_getElem h];simp[List.getD,List.getElem?_eq_getElem h]
theorem sZ(l m:List UInt8)(a a':Option Addr)(n c n' c':Nat)(w:World)(h:aM w w.heap.size a n c l)(h':aM w w.heap.size a' n' c' m):
  Calls Tryz.prog 19 #[.slice a n c, .slice a' n' c'] w fun e w'=>e= .returned (.bool (decide (l=m)))/\Below w.heap.size w w':=by
 have hl:=h.hlen;have R:=h'.hlen;have Y:=h.hbig;obtain⟨d,B⟩:∃d,d=decide (l=m):=⟨_,rfl⟩
 rw[<-B];have G:=Hh B;clear B;by_cases P:n=n'
 ·subst P;have O:((n:Int) !=(n:Int))=false:=by simp
  go_enter Tryz.func19,Tryz.ntmps19
  go_wp2_with fail;go_loopw [5] (fun i wr=>∃f:Nat,f<=n/\i= .int .i64 f/\l.take f=m.take f/\Below w.heap.size w wr)
   (fun i _=>n-(intOf i).toNat)
  case atStart=>exact⟨0,by omega,rfl,rfl,Below.refl _ _⟩
  case round=>
   obtain⟨f,V,rfl,q,g⟩:=hrel;by_cases t:f<n
   ·obtain⟨b,o,rfl,Z,L⟩:=h.hat (by omega);obtain⟨M,J,rfl,C,v⟩:=h'.hat (by omega);obtain⟨x,A⟩:∃x,x=l.getD f 0:=⟨_,rfl⟩
    obtain⟨y,z⟩:∃y,y=m.getD f 0:=⟨_,rfl⟩
    have X:wr.cell? ⟨b,o+f,none⟩=some (.int .u8 (x.toNat:Int)):=by rw[A];exact(g.cell (p:=⟨b,o+f,none⟩) Z).trans (L f t)
    have W:wr.cell? ⟨M,J+f,none⟩=some (.int .u8 (y.toNat:Int)):=by rw[z];exact(g.cell (p:=⟨M,J+f,none⟩) C).trans (v f t)
    have I:l.take (f+1)=l.take f++ [x]:=by rw[A,mE l f (by omega)]
    have H:m.take (f+1)=m.take f++ [y]:=by rw[z,mE m f (by omega)]
    have S1:=Hh I;have S2:=Hh H;have HX:=Hh A;have HY:=Hh z;have F:=Hh q;have r:=Hh g;clear L v I H A z q h h' g;have T:(0:Int)<=(f:Int):=by omega
    have S:(f:Int)<(n:Int):=by omega
    by_cases j:x=y
    ·have N:((x.toNat:Int) !=(y.toNat:Int))=false:=by simp[j]
     have D:=Hh j;clear j;go_wp2_with fail;go_quiet (fail)
     go_wp2;go_roundw
     case rel=>exact⟨f+1,by omega,by go_num,by rw[S1.out,S2.out,F.out,D.out],below_drewN r.out _⟩
     case measure=>simp[intOf];omega
    ·have N:((x.toNat:Int) !=(y.toNat:Int))=true:=by
      have:x.toNat≠y.toNat:=fun e=>j (UInt8.toNat_inj.1 e)
      simp;omega
     have k:decide (l=m)=false:=by simp;rintro rfl;exact j (by rw[HX.out,HY.out])
     have s:=Hh k;clear k j;go_wp2_with fail;go_quiet (fail)
     go_wp2;go_ret;exact⟨bY (by rw[G.out,s.out]),below_drewN r.out _⟩
   ·have U:f=n:=by omega
    have he:decide (l=m)=true:=by rw[List.take_of_length_le (by omega),List.take_of_length_le (by omega)]at q;simpa using q
    have HE:=Hh he;clear he q;go_wp2;go_ret;exact⟨bY (by rw[G.out,HE.out]),g⟩
 ·have O:((n:Int) !=(n':Int))=true:=by simp;omega
  have k:decide (l=m)=false:=by simp;rintro rfl;omega
  have s:=Hh k;clear k;go_enter Tryz.func19,Tryz.ntmps19
  go_wp2;go_ret;exact⟨bY (by rw[G.out,s.out]),Below.refl _ _⟩
theorem uE{a v:Nat}{l r:List UInt8}(h:ak a l= .ok v r):v<=a:=by
 cases l with
 | nil=>simp[ak]at h
 | cons k t=>
  simp only[ak]at h
  repeat' split at h
  all_goals first | (cases h;omega) | (cases h)
theorem iQ(q b:Nat)(l:List UInt8)(w:World)(h:bF w q l)(hm:b<9223372036854775808):
  Calls Tryz.prog 93 #[.pointer (some ⟨q,0,none⟩), .int .i64 b] w fun e w'=>kD q (aT b l) w w' e fun v=>∃a c,e= .returned (.slice a v.length c)/\aM w' w'.heap.size a v.length c v/\w'.ownsRow w.heap.size 5 1 (.slice a v.length c) v.length (v.map bv):=by
 obtain⟨N,hN⟩:∃N,N=aT b l:=⟨_,rfl⟩
 rw[<-hN];have C:=Hh hN;have P:=h.1;clear hN;go_enter Tryz.func93,Tryz.ntmps93
 go_wp2_with fail;refine(dK q b _ _ h).mono ?_;rintro e M ⟨B,A⟩;cases hg:ak b l with
 | err x=>
  rw[hg]at A;obtain rfl:e=bK x:=A;have hN:N= .err x:=by rw[C.out];simp[aT,hg]
  subst hN;clear hg;go_wp2;exact⟨rfl,B,rfl⟩
 | ok v r=>
  rw[hg]at A;obtain⟨rfl,j⟩:=A;have O:=uE hg;have hN:N=eR v r:=by rw[C.out];simp[aT,hg]
  have z:=Hh hN;have G:=Hh B;clear hN hg C h B;go_wp2_with fail;refine(mp q v _ _ j).mono ?_;rintro e H ⟨i,k,f⟩;by_cases s:r.length<v
  ·obtain rfl:=k s;have hN:N= .err 2:=by rw[z.out];simp[eR,s]
   subst hN;clear k f s;go_wp2;exact⟨rfl,G.out.trans i,rfl⟩
  ·obtain⟨a,rfl,y,d⟩:=f (by omega);have hN:N= .ok (r.take v) (r.drop v):=by rw[z.out];simp[eR,s]
   subst hN;have n:q<H.heap.size:=d.1;have I:=Nat.le_trans G.out.size i.size;have F:=Hh i;have D:=Hh y;have HE:=Hh d;have p:(r.take v).length=v:=by simp;omega
   have m:=Hh p;clear k f s i y d p j;go_wp2_with fail;refine(nI _ a v v _ (D.out.mono (Nat.le_of_lt n))).mono ?_;rintro e L ⟨J,c3,rfl,t,g,o⟩;go_wp2;go_ret;refine⟨(G.out.trans F.out).trans (fV.ofBelow n g),⟨J,c3,?_,?_,?_⟩,HE.out.below g⟩
   ·rw[m.out];rfl
   ·rw[m.out];exact t
   ·rw[m.out];exact World.ownsRow.mono o (by omega)
end Go.Proofs.YtogcnfhmcpkdcaaGreat
