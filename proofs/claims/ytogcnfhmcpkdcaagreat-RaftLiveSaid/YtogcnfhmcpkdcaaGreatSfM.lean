/-
The plain law of RaftSafe: ghosts, majorities, and what each turning of the ghosts keeps. No walk.
-/
import Derived.Test.YtogcnfhmcpkdcaaGreatRaftLaw3
import Derived.Test.YtogcnfhmcpkdcaaGreatRaftM6
import Derived.Test.YtogcnfhmcpkdcaaGreatGrC
namespace Go.Proofs.YtogcnfhmcpkdcaaGreat
open Go.RowKit
set_option linter.unusedVariables false
set_option linter.unusedSimpArgs false
def ee(n:Nat)(p:Nat->Bool):Nat:=((List.range n).filter p).length
def uQ(n:Nat)(p:Nat->Bool):Prop:=n / 2+1<=ee n p
theorem cY(n:Nat)(p:Nat->Bool):ee (n+1) p=ee n p+(if p n=true then 1 else 0):=by
 unfold ee;rw[List.range_succ,List.filter_append,List.length_append]
 congr 1
 cases h:p n<;>simp[h]
theorem kX{n:Nat}{p q:Nat->Bool}(h:∀k,k<n->p k=true->q k=true):ee n p<=ee n q:=by
 induction n with
 | zero=>simp[ee]
 | succ n ih=>
  rw[cY,cY];have c:=ih (fun k b=>h k (by omega));by_cases a:p n=true
  ·rw[if_pos a,if_pos (h n (by omega) a)];omega
  ·rw[if_neg a];split<;>omega
theorem vZ(n:Nat)(p q:Nat->Bool):ee n p+ee n q<=n+ee n (fun k=>p k && q k):=by
 induction n with
 | zero=>simp[ee]
 | succ n ih=>rw[cY,cY,cY];cases hp:p n<;>cases hq:q n<;>simp<;>omega
theorem vY{n:Nat}{p:Nat->Bool}(h:0<ee n p):∃k,k<n/\p k=true:=by
 induction n with
 | zero=>simp[ee]at h
 | succ n ih=>
  rw[cY]at h;by_cases a:p n=true
  ·exact⟨n,by omega,a⟩
  ·rw[if_neg a]at h;obtain⟨k,c,b⟩:=ih (by omega);exact⟨k,by omega,b⟩
theorem qM{n:Nat}{p q:Nat->Bool}(b:uQ n p)(hq:uQ n q):∃k,k<n/\p k=true/\q k=true:=by have d:=vZ n p q;unfold uQ at b hq;obtain⟨k,c,a⟩:=vY (n:=n) (p:=fun k=>p k && q k) (by omega);simp only[Bool.and_eq_true]at a;exact⟨k,c,a.1,a.2⟩
theorem gq{n:Nat}{p q:Nat->Bool}(a:uQ n p)(h:∀k,k<n->p k=true->q k=true):uQ n q:=Nat.le_trans a (kX h)
def dm(l:List ar)(i:Nat):Int:=if i=0 then 0 else(l.getD (i-1) (0,[])).1
theorem dN{a b:List ar}{i j:Nat}(h:a.take i=b.take i)(hj:j<=i):dm a j=dm b j:=by
 unfold dm;by_cases c:j=0
 ·rw[if_pos c,if_pos c]
 ·rw[if_neg c,if_neg c];have d:∀l:List ar,l.getD (j-1) (0,[])=(l.take i).getD (j-1) (0,[]):=fun l=>by
   rw[List.getD_eq_getElem?_getD,List.getD_eq_getElem?_getD,List.getElem?_take_of_lt (by omega)]
  rw[d a,d b,h]
theorem cD{a b:List ar}{i j:Nat}(h:a.take i=b.take i)(hj:j<=i):a.take j=b.take j:=by
 have c:=congrArg (List.take j) h
 rwa [List.take_take,List.take_take,Nat.min_eq_left hj]at c
theorem gX{a b:List ar}{i:Nat}(h:a <+:b)(hi:i<=a.length):b.take i=a.take i:=by obtain⟨c,rfl⟩:=h;rw[List.take_append_of_le_length hi]
theorem jQ{a b:List ar}{i:Nat}(h:a <+:b)(hi:i<=a.length):dm b i=dm a i:=dN (gX h hi) (Nat.le_refl _)
structure Gh where
 fl:Nat->List ar
 gl:Int->List ar
 ldr:Int->Option Nat
 ack:Nat->Int->Nat
 vote:Nat->Int->Option Nat
 cl:Nat->Int->List ar
 bt:Nat->Int
 cnt:Nat
 sn:Nat
section
variable {n : Nat} {g g' : Gh}
def Gh.Chosen(g:Gh)(n:Nat)(T:Int)(i:Nat):Prop:=g.ldr T≠none/\1<=i/\i<=(g.gl T).length/\dm (g.gl T) i=T/\uQ n (fun k=>decide (i<=g.ack k T))
def Gh.Blocked(g:Gh)(n:Nat)(T:Int)(i:Nat):Prop:=uQ n (fun k=>decide (T<g.bt k/\g.ack k T<i))
theorem Gh.not_both{T:Int}{i:Nat}(h:g.Chosen n T i)(h2:g.Blocked n T i):False:=by obtain⟨k, -,b,a⟩:=qM h.2.2.2.2 h2;simp only[decide_eq_true_eq]at b a;omega
def Gh.Lm(g:Gh)(T:Int)(l:List ar)(i:Nat):Prop:=1<=dm l i/\dm l i<=T/\g.ldr (dm l i)≠none/\i<=(g.gl (dm l i)).length/\l.take i=(g.gl (dm l i)).take i
def Gh.Has(g:Gh)(n:Nat)(l:List ar)(T:Int)(i:Nat):Prop:=(i<=l.length/\l.take i=(g.gl T).take i)\/g.Blocked n T i
structure Gh.Ok (g:Gh) (n:Nat):Prop where
 gline:∀T,g.ldr T≠none->∀i,1<=i->i<=(g.gl T).length->g.Lm T (g.gl T) i
 fline:∀j,j<n->∀i,1<=i->i<=(g.fl j).length->g.Lm (g.bt j) (g.fl j) i
 cline:∀c T,c<n->∀i,1<=i->i<=(g.cl c T).length->g.Lm (T-1) (g.cl c T) i
 ackle:∀k T,k<n->0<g.ack k T->g.ldr T≠none/\T<=g.bt k/\g.ack k T<=(g.gl T).length
 ackNow:∀k,k<n->(g.fl k).take (g.ack k (g.bt k))=(g.gl (g.bt k)).take (g.ack k (g.bt k))/\g.ack k (g.bt k)<=(g.fl k).length
 ackOld:∀k T i,k<n->T<g.bt k->g.ldr T≠none->1<=i->i<=g.ack k T->dm (g.gl T) i=T->g.Has n (g.fl k) T i
 votes:∀k T c,k<n->g.vote k T=some c->T<=g.bt k/\1<=T/\c<n/\T<=g.bt c
 voter:∀k c T T0 i,k<n->g.vote k T=some c->T0<T->g.ldr T0≠none->1<=i->i<=g.ack k T0->dm (g.gl T0) i=T0->g.Has n (g.cl c T) T0 i
 elect:∀T T0 i,g.ldr T≠none->g.ldr T0≠none->T0<T->1<=i->i<=(g.gl T0).length->dm (g.gl T0) i=T0->g.Has n (g.gl T) T0 i
 ldrMaj:∀T c,g.ldr T=some c->uQ n (fun k=>decide (g.vote k T=some c))
 ldrBt:∀T c,g.ldr T=some c->T<=g.bt c/\1<=T/\c<n
 fb:∀k,k<n->(g.fl k).length<=g.cnt/\∀it∈g.fl k,it.2.length<=50
 gb:∀T,g.ldr T≠none->(g.gl T).length<=g.cnt/\∀it∈g.gl T,it.2.length<=50
structure Gh.Ext (g g':Gh) (n:Nat):Prop where
 ldr:∀T c,g.ldr T=some c->g'.ldr T=some c
 gl:∀T,g.ldr T≠none->g.gl T <+:g'.gl T
 ack:∀k T,k<n->g.ack k T<=g'.ack k T
 old:∀k T,k<n->T<g.bt k->g'.ack k T=g.ack k T
 bt:∀k,k<n->g.bt k<=g'.bt k
 vote:∀k T c,k<n->g.vote k T=some c->g'.vote k T=some c
 cl:∀k T,k<n->T<=g.bt k->g'.cl k T=g.cl k T
 sn:g.sn<=g'.sn
theorem Gh.Ext.refl(g:Gh)(n:Nat):g.Ext g n:=⟨fun _ _ h=>h,fun _ _=>List.prefix_refl _,fun _ _ _=>Nat.le_refl _,fun _ _ _ _=>rfl,fun _ _=>Int.le_refl _,fun _ _ _ _ h=>h,fun _ _ _ _=>rfl,Nat.le_refl _⟩
theorem Gh.Ext.ldrn(h:g.Ext g' n){T:Int}(hT:g.ldr T≠none):g'.ldr T≠none:=by
 cases hl:g.ldr T with
 | none=>exact absurd hl hT
 | some c=>rw[h.ldr T c hl];exact fun e=>by cases e
theorem Gh.Ext.trans{b:Gh}(h:g.Ext g' n)(k:g'.Ext b n):g.Ext b n:=⟨fun T c e=>k.ldr T c (h.ldr T c e),fun T hT=>(h.gl T hT).trans (k.gl T (h.ldrn hT)),fun x T a=>Nat.le_trans (h.ack x T a) (k.ack x T a),fun x T a hT=>(k.old x T a (by have:=h.bt x a;omega)).trans (h.old x T a hT),fun x a=>Int.le_trans (h.bt x a) (k.bt x a),fun x T c a d=>k.vote x T c a (h.vote x T c a d),fun x T a hT=>(k.cl x T a (by have:=h.bt x a;omega)).trans (h.cl x T a hT),Nat.le_trans h.sn k.sn⟩
theorem Gh.Ext.chosen(h:g.Ext g' n){T:Int}{i:Nat}(e:g.Chosen n T i):g'.Chosen n T i:=by obtain⟨a,l,b,j,f⟩:=e;refine⟨h.ldrn a,l,Nat.le_trans b (h.gl T a).length_le,(jQ (h.gl T a) b).trans j,gq f fun k d c=> ?_⟩;simp only[decide_eq_true_eq]at c ⊢;have:=h.ack k T d;omega
theorem Gh.Ext.blocked(h:g.Ext g' n){T:Int}{i:Nat}(c:g.Blocked n T i):g'.Blocked n T i:=gq c fun k b a=>by simp only[decide_eq_true_eq]at a ⊢;rw[h.old k T b a.1];have:=h.bt k b;omega
theorem Gh.Ext.lm(h:g.Ext g' n){T T':Int}{l:List ar}{i:Nat}(hT:T<=T')(hl:g.Lm T l i):g'.Lm T' l i:=by obtain⟨d,e,a,b,c⟩:=hl;exact⟨d,by omega,h.ldrn a,Nat.le_trans b (h.gl _ a).length_le,c.trans (gX (h.gl _ a) b).symm⟩
theorem Gh.Ext.has(h:g.Ext g' n){l:List ar}{T:Int}{i:Nat}(hT:g.ldr T≠none)(hi:i<=(g.gl T).length)(hh:g.Has n l T i):g'.Has n l T i:=by
 rcases hh with⟨a,b⟩ | a
 ·exact .inl ⟨a,b.trans (gX (h.gl T hT) hi).symm⟩
 ·exact .inr (h.blocked a)
theorem Gh.Ok.ldrOne(h:g.Ok n){T:Int}{c:Nat}(e:uQ n (fun k=>decide (g.vote k T=some c))){d:Nat}(hd:g.ldr T=some d):d=c:=by obtain⟨k, -,b,a⟩:=qM e (h.ldrMaj T d hd);simp only[decide_eq_true_eq]at b a;rw[b]at a;injection a with a;exact a.symm
theorem Gh.Ok.grows(h:g.Ok n){T:Int}{l:List ar}(a:∀i,1<=i->i<=l.length->g.Lm T l i){i k:Nat}(b:1<=i)(hik:i<=k)(hk:k<=l.length):dm l i<=dm l k:=by obtain⟨j,f,d,e,c⟩:=a k (by omega) hk;rw[dN c hik];exact(h.gline _ d i b (by omega)).2.1
theorem Gh.same{T c:Int}{l a:List ar}{i:Nat}(b:g.Lm T l i)(hl':g.Lm c a i)(he:dm l i=dm a i):l.take i=a.take i:=by rw[b.2.2.2.2,hl'.2.2.2.2,he]
theorem Gh.Ok.kept(h:g.Ok n){T T0:Int}{i:Nat}(a:g.Chosen n T0 i)(hT:g.ldr T≠none)(hlt:T0<=T):i<=(g.gl T).length/\(g.gl T).take i=(g.gl T0).take i:=by
 by_cases he:T0=T
 ·subst he;exact⟨a.2.2.1,rfl⟩
 ·rcases h.elect T T0 i hT a.1 (by omega) a.2.1 a.2.2.1 a.2.2.2.1 with b | b
  ·exact b
  ·exact(Gh.not_both a b).elim
theorem Gh.Ok.chosen2(h:g.Ok n){T T0:Int}{i b:Nat}(c:g.Chosen n T i)(hc0:g.Chosen n T0 b){m:Nat}(d:m<=i)(hm0:m<=b):(g.gl T).take m=(g.gl T0).take m:=by
 by_cases a:T0<=T
 ·exact cD (h.kept hc0 c.1 a).2 hm0
 ·exact(cD (h.kept c hc0.1 (by omega)).2 d).symm
end
def rS{α:Type}(f:Nat->α)(j:Nat)(x:α):Nat->α:=fun k=>if k=j then x else f k
def qk{α:Type}(f:Int->α)(T:Int)(x:α):Int->α:=fun U=>if U=T then x else f U
def eC{α:Type}(f:Nat->Int->α)(j:Nat)(T:Int)(x:α):Nat->Int->α:=fun k U=>if k=j/\U=T then x else f k U
theorem gg{α:Type}(f:Nat->α)(j:Nat)(x:α):rS f j x j=x:=if_pos rfl
theorem fF{α:Type}(f:Nat->α){j k:Nat}(x:α)(h:k≠j):rS f j x k=f k:=if_neg h
theorem ge{α:Type}(f:Int->α)(T:Int)(x:α):qk f T x T=x:=if_pos rfl
theorem eF{α:Type}(f:Int->α){T U:Int}(x:α)(h:U≠T):qk f T x U=f U:=if_neg h
theorem cA{α:Type}(f:Nat->Int->α)(j:Nat)(T:Int)(x:α):eC f j T x j T=x:=if_pos ⟨rfl,rfl⟩
theorem bw{α:Type}(f:Nat->Int->α){j k:Nat}{T U:Int}(x:α)(h:¬(k=j/\U=T)):eC f j T x k U=f k U:=if_neg h
section
variable {n j : Nat} {g g' : Gh}
structure Gh.Step (g g':Gh) (n j:Nat):Prop where
 ext:g.Ext g' n
 fl:∀k,k≠j->g'.fl k=g.fl k
 bt:∀k,k≠j->g'.bt k=g.bt k
 vote:∀k T,k≠j->g'.vote k T=g.vote k T
 cl:∀k T,k≠j->g'.cl k T=g.cl k T
 ack:∀k T,k≠j->g'.ack k T=g.ack k T
 gl:∀T,g'.ldr T≠some j->g'.gl T=g.gl T/\g'.ldr T=g.ldr T
 sn:g'.sn=g.sn
theorem Gh.Step.refl(g:Gh)(n j:Nat):g.Step g n j:=⟨.refl g n,fun _ _=>rfl,fun _ _=>rfl,fun _ _ _=>rfl,fun _ _ _=>rfl,fun _ _ _=>rfl,fun _ _=>⟨rfl,rfl⟩,rfl⟩
theorem Gh.Step.trans{b:Gh}(h:g.Step g' n j)(k:g'.Step b n j):g.Step b n j:=
 ⟨h.ext.trans k.ext,fun x a=>(k.fl x a).trans (h.fl x a),fun x a=>(k.bt x a).trans (h.bt x a),fun x T a=>(k.vote x T a).trans (h.vote x T a),fun x T a=>(k.cl x T a).trans (h.cl x T a),fun x T a=>(k.ack x T a).trans (h.ack x T a),fun T hT=>by obtain⟨f,c⟩:=k.gl T hT;obtain⟨e,d⟩:=h.gl T (by rw[<-c];exact hT);exact⟨f.trans e,c.trans d⟩,k.sn.trans h.sn⟩
theorem Gh.Ok.ack0(h:g.Ok n){k:Nat}{T:Int}(b:k<n)(hT:g.bt k<T):g.ack k T=0:=by
 rcases Nat.eq_zero_or_pos (g.ack k T) with a | a
 ·exact a
 ·have:=(h.ackle k T b a).2.1;omega
theorem Gh.Ok.ackn(h:g.Ok n){k:Nat}{T:Int}(b:k<n)(hT:g.ldr T=none):g.ack k T=0:=by
 rcases Nat.eq_zero_or_pos (g.ack k T) with a | a
 ·exact a
 ·exact absurd hT (h.ackle k T b a).1
theorem Gh.Ok.voten(h:g.Ok n){k:Nat}{T:Int}(a:k<n)(hT:g.bt k<T):g.vote k T=none:=by
 cases hv:g.vote k T with
 | none=>rfl
 | some c=>have:=(h.votes k T c a hv).1;omega
theorem Gh.Ok.ackAll(h:g.Ok n){k i:Nat}{T:Int}(a:k<n)(hT:g.ldr T≠none)(hi:1<=i)(ha:i<=g.ack k T)(ht:dm (g.gl T) i=T):g.Has n (g.fl k) T i:=by
 have d:=(h.ackle k T a (by omega)).2.1;by_cases he:T=g.bt k
 ·subst he;obtain⟨b,c⟩:=h.ackNow k a;exact .inl ⟨by omega,cD b ha⟩
 ·exact h.ackOld k T i a (by omega) hT hi ha ht
def Gh.term(g:Gh)(j:Nat)(t:Int):Gh:={ g with bt:=rS g.bt j t }
theorem Gh.term_ext(h:g.Ok n){t:Int}(a:g.bt j<t):g.Ext (g.term j t) n:=
 ⟨fun _ _ h=>h,fun _ _=>List.prefix_refl _,fun _ _ _=>Nat.le_refl _,fun _ _ _ _=>rfl,fun k _=>by
  show g.bt k<=rS g.bt j t k;by_cases e:k=j
  ·subst e;rw[gg];omega
  ·rw[fF _ _ e];exact Int.le_refl _,fun _ _ _ _ h=>h,fun _ _ _ _=>rfl,Nat.le_refl _⟩
theorem Gh.term_step(h:g.Ok n){t:Int}(a:g.bt j<t):g.Step (g.term j t) n j:=⟨Gh.term_ext h a,fun _ _=>rfl,fun k b=>fF _ _ b,fun _ _ _=>rfl,fun _ _ _=>rfl,fun _ _ _=>rfl,fun _ _=>⟨rfl,rfl⟩,rfl⟩
theorem Gh.term_ok(h:g.Ok n){t:Int}(x:g.bt j<t):(g.term j t).Ok n:=by
 have p:=Gh.term_ext h x;have y:∀k,(g.term j t).bt k=if k=j then t else g.bt k:=fun k=>rfl
 have m:∀ {l:List ar} {T:Int} {i:Nat},g.ldr T≠none->i<=(g.gl T).length->g.Has n l T i->(g.term j t).Has n l T i:=fun f a d=>p.has f a d
 refine⟨h.gline,fun k b i f a=> ?_,h.cline,fun k T b f=> ?_,fun k b=> ?_,fun k T i b hT o f a d=> ?_,fun k T c b v=> ?_,fun k c T q i b v hT o f a d=> ?_,fun T q i o r hT f a d=> ?_,h.ldrMaj,fun T c o=> ?_,h.fb,h.gb⟩
 ·exact p.lm (p.bt k b) (h.fline k b i f a)
 ·obtain⟨a,d,s⟩:=h.ackle k T b f;exact⟨a,Int.le_trans d (p.bt k b),s⟩
 ·show(g.fl k).take (g.ack k (if k=j then t else g.bt k))=(g.gl (if k=j then t else g.bt k)).take (g.ack k (if k=j then t else g.bt k))/\g.ack k (if k=j then t else g.bt k)<=(g.fl k).length;by_cases e:k=j
  ·subst e;rw[if_pos rfl,h.ack0 b x];exact⟨rfl,Nat.zero_le _⟩
  ·rw[if_neg e];exact h.ackNow k b
 ·have s:=h.ackle k T b (by have w:i<=g.ack k T:=a;omega);exact m o (by have w:i<=g.ack k T:=a;omega) (h.ackAll b o f a d)
 ·obtain⟨f,a,d,s⟩:=h.votes k T c b v;exact⟨Int.le_trans f (p.bt k b),a,d,Int.le_trans s (p.bt c d)⟩
 ·have s:=h.ackle k q b (by have w:i<=g.ack k q:=a;omega);exact m o (by have w:i<=g.ack k q:=a;omega) (h.voter k c T q i b v hT o f a d)
 ·exact m r a (h.elect T q i o r hT f a d)
 ·obtain⟨f,a,d⟩:=h.ldrBt T c o;exact⟨Int.le_trans f (p.bt c d),a,d⟩
def Gh.cast(g:Gh)(j c:Nat):Gh:={ g with vote:=eC g.vote j (g.bt j) (some c) }
theorem Gh.cast_ext(b:g.vote j (g.bt j)=none)(c:Nat):g.Ext (g.cast j c) n:=
 ⟨fun _ _ h=>h,fun _ _=>List.prefix_refl _,fun _ _ _=>Nat.le_refl _,fun _ _ _ _=>rfl,fun _ _=>Int.le_refl _,fun k T d e a=>by
  show eC g.vote j (g.bt j) (some c) k T=some d;rw[bw]
  ·exact a
  ·rintro⟨rfl,rfl⟩;rw[b]at a;exact absurd a (by simp),fun _ _ _ _=>rfl,Nat.le_refl _⟩
theorem Gh.cast_step(a:g.vote j (g.bt j)=none)(c:Nat):g.Step (g.cast j c) n j:=⟨Gh.cast_ext a c,fun _ _=>rfl,fun _ _=>rfl,fun k T b=>bw _ _ (fun e=>b e.1),fun _ _ _=>rfl,fun _ _ _=>rfl,fun _ _=>⟨rfl,rfl⟩,rfl⟩
theorem Gh.cast_ok(h:g.Ok n){c:Nat}(t:g.vote j (g.bt j)=none)(hc:c<n)(hT:1<=g.bt j)(hcb:g.bt j<=g.bt c)
 (v:∀(b:Int) (i:Nat),b<g.bt j->g.ldr b≠none->1<=i->i<=g.ack j b->dm (g.gl b) i=b->g.Has n (g.cl c (g.bt j)) b i):(g.cast j c).Ok n:=by
 have s:g.Ext (g.cast j c) n:=Gh.cast_ext t c;refine⟨h.gline,h.fline,h.cline,h.ackle,h.ackNow,h.ackOld,fun k T d f a=> ?_,fun k d T b i f a l m r q p=> ?_,h.elect,fun T d m=> ?_,h.ldrBt,h.fb,h.gb⟩
 ·have a:eC g.vote j (g.bt j) (some c) k T=some d:=a;by_cases e:k=j/\T=g.bt j
  ·obtain⟨rfl,rfl⟩:=e;rw[cA]at a;injection a with a;subst a;exact⟨Int.le_refl _,hT,hc,hcb⟩
  ·rw[bw _ _ e]at a;exact h.votes k T d f a
 ·have a:eC g.vote j (g.bt j) (some c) k T=some d:=a;by_cases e:k=j/\T=g.bt j
  ·obtain⟨rfl,rfl⟩:=e;rw[cA]at a;injection a with a;subst a;exact v b i l m r q p
  ·rw[bw _ _ e]at a;exact h.voter k d T b i f a l m r q p
 ·exact gq (h.ldrMaj T d m) fun k f o=>by simp only[decide_eq_true_eq]at o ⊢;exact s.vote k T d f o
def Gh.stand(g:Gh)(j:Nat)(t:Int):Gh:={ g with bt:=rS g.bt j t,cl:=eC g.cl j t (g.fl j) }
theorem Gh.stand_ext(h:g.Ok n){t:Int}(b:g.bt j<t):g.Ext (g.stand j t) n:=by
 have a:=Gh.term_ext h b;exact⟨a.ldr,a.gl,a.ack,a.old,a.bt,a.vote,fun k T c hT=>bw _ _ (fun e=>by obtain⟨rfl,rfl⟩:=e;omega),Nat.le_refl _⟩
theorem Gh.stand_step(h:g.Ok n){t:Int}(b:g.bt j<t):g.Step (g.stand j t) n j:=⟨Gh.stand_ext h b,fun _ _=>rfl,fun k a=>fF _ _ a,fun _ _ _=>rfl,fun k T a=>bw _ _ (fun e=>a e.1),fun _ _ _=>rfl,fun _ _=>⟨rfl,rfl⟩,rfl⟩
theorem Gh.stand_ok(h:g.Ok n)(hj:j<n){t:Int}(s:g.bt j<t):(g.stand j t).Ok n:=by
 have a:=Gh.term_ok h s;refine⟨a.gline,a.fline,fun c T o i d b=> ?_,a.ackle,a.ackNow,a.ackOld,a.votes,fun k c T r i m l hT v d b x=> ?_,a.elect,a.ldrMaj,a.ldrBt,a.fb,a.gb⟩
 ·show g.Lm (T-1) (eC g.cl j t (g.fl j) c T) i;have b:i<=(eC g.cl j t (g.fl j) c T).length:=b;by_cases e:c=j/\T=t
  ·obtain⟨rfl,rfl⟩:=e;rw[cA]at b ⊢;obtain⟨q,y,p⟩:=h.fline c o i d b;exact⟨q,by omega,p⟩
  ·rw[bw _ _ e]at b ⊢;exact h.cline c T o i d b
 ·have f:g.vote k T=some c:=l;obtain⟨q,y,p,z⟩:=h.votes k T c m f;have e:¬(c=j/\T=t):=fun e=>by
   obtain⟨rfl,rfl⟩:=e;omega
  have w:=a.voter k c T r i m l hT v d b x;show Gh.Has (g.stand j t) n (eC g.cl j t (g.fl j) c T) r i;rw[bw _ _ e];exact w
def Gh.lead(g:Gh)(j:Nat):Gh:={ g with ldr:=qk g.ldr (g.bt j) (some j),gl:=qk g.gl (g.bt j) (g.fl j),ack:=eC g.ack j (g.bt j) (g.fl j).length }
theorem Gh.lead_ext(h:g.Ok n)(hj:j<n)(hl:g.ldr (g.bt j)=none):g.Ext (g.lead j) n:=by
 refine⟨fun T c a=> ?_,fun T a=> ?_,fun k T b=> ?_,fun k T b hT=> ?_,fun _ _=>Int.le_refl _,fun _ _ _ _ h=>h,fun _ _ _ _=>rfl,Nat.le_refl _⟩
 ·show qk g.ldr (g.bt j) (some j) T=some c;rw[eF _ _ (fun e=>by rw[e,hl]at a;cases a)];exact a
 ·show g.gl T <+:qk g.gl (g.bt j) (g.fl j) T;rw[eF _ _ (fun e=>a (by rw[e];exact hl))];exact List.prefix_refl _
 ·show g.ack k T<=eC g.ack j (g.bt j) (g.fl j).length k T;by_cases e:k=j/\T=g.bt j
  ·obtain⟨rfl,rfl⟩:=e;rw[cA,h.ackn b hl];exact Nat.zero_le _
  ·rw[bw _ _ e];exact Nat.le_refl _
 ·show eC g.ack j (g.bt j) (g.fl j).length k T=g.ack k T;exact bw _ _ (fun e=>by obtain⟨rfl,rfl⟩:=e;omega)
theorem Gh.lead_step(h:g.Ok n)(hj:j<n)(hl:g.ldr (g.bt j)=none):g.Step (g.lead j) n j:=
 ⟨Gh.lead_ext h hj hl,fun _ _=>rfl,fun _ _=>rfl,fun _ _ _=>rfl,fun _ _ _=>rfl,fun k T a=>bw _ _ (fun e=>a e.1),fun T hT=>by
  by_cases e:T=g.bt j
  ·subst e;exact absurd (ge g.ldr (g.bt j) (some j)) hT
  ·exact⟨eF _ _ e,eF _ _ e⟩,rfl⟩
theorem Gh.lead_ok(h:g.Ok n)(hj:j<n)(hT:1<=g.bt j)(hl:g.ldr (g.bt j)=none)(hm:uQ n (fun k=>decide (g.vote k (g.bt j)=some j)))(hc:g.cl j (g.bt j)=g.fl j):(g.lead j).Ok n:=by
 have M:=Gh.lead_ext h hj hl;obtain⟨T,s⟩:∃T,T=g.bt j:=⟨_,rfl⟩
 have d:∀U,(g.lead j).ldr U=if U=T then some j else g.ldr U:=fun U=>by rw[s];rfl
 have p:∀U,(g.lead j).gl U=if U=T then g.fl j else g.gl U:=fun U=>by rw[s];rfl
 have v:∀k U,(g.lead j).ack k U=if k=j/\U=T then(g.fl j).length else g.ack k U:=fun k U=>by rw[s];rfl
 rw[<-s]at hT hl hm hc;have B:∀i,1<=i->i<=(g.fl j).length->g.Lm (T-1) (g.fl j) i:=fun i o b=>by have y:=h.cline j T hj i o (by rw[hc];exact b);rw[hc]at y;exact y
 have F:∀ {U:Int},g.ldr U≠none->U≠T:=fun r e=>r (by rw[e];exact hl)
 have A:∀ {U:Int} {l:List ar} {i:Nat},g.Lm U l i->(g.lead j).Lm U l i:=fun y=>M.lm (Int.le_refl _) y
 have m:∀ {U:Int} {l:List ar} {i:Nat},g.ldr U≠none->i<=(g.gl U).length->g.Has n l U i->(g.lead j).Has n l U i:=fun o b w=>M.has o b w
 refine⟨fun U r i o b=> ?_,fun k q i o b=>A (h.fline k q i o b),fun c U I i o b=>A (h.cline c U I i o b),fun k U q o=> ?_,fun k q=> ?_,fun k U i q r a o b w=> ?_,h.votes,fun k c U z i q D r a o b w=> ?_,fun U z i a f r o b w=> ?_,fun U c a=> ?_,fun U c a=> ?_,h.fb,fun U r=> ?_⟩
 ·rw[d]at r;by_cases e:U=T
  ·subst e;have t:(g.lead j).gl U=g.fl j:=by rw[p,if_pos rfl]
   rw[t]at b ⊢;obtain⟨G,P,L⟩:=A (B i o b);exact⟨G,by omega,L⟩
  ·rw[if_neg e]at r;have t:(g.lead j).gl U=g.gl U:=by rw[p,if_neg e]
   rw[t]at b ⊢;exact A (h.gline U r i o b)
 ·rw[v]at o;rw[d,p,v];by_cases e:k=j/\U=T
  ·obtain⟨rfl,rfl⟩:=e;rw[if_pos rfl,if_pos rfl,if_pos ⟨rfl,rfl⟩];exact⟨fun e=>(by cases e),(by rw[s];exact Int.le_refl _),Nat.le_refl _⟩
  ·rw[if_neg e]at o ⊢;obtain⟨G,P,L⟩:=h.ackle k U q o;rw[if_neg (F G),if_neg (F G)];exact⟨G,P,L⟩
 ·show(g.fl k).take ((g.lead j).ack k (g.bt k))=((g.lead j).gl (g.bt k)).take ((g.lead j).ack k (g.bt k))/\(g.lead j).ack k (g.bt k)<=(g.fl k).length;rw[v,p];by_cases e:k=j
  ·subst e;rw[if_pos ⟨rfl,s.symm⟩,if_pos s.symm];exact⟨rfl,Nat.le_refl _⟩
  ·rw[if_neg (fun t=>e t.1)];by_cases C:g.bt k=T
   ·rw[if_pos C,C,h.ackn q hl];exact⟨rfl,Nat.zero_le _⟩
   ·rw[if_neg C];exact h.ackNow k q
 ·have r:U<g.bt k:=r;have J:U≠T\/(U=T/\k≠j):=by
   by_cases e:U=T
   ·exact .inr ⟨e,fun t=>by rw[t,<-s]at r;omega⟩
   ·exact .inl e
  rw[d]at a;rw[v]at b;rw[p]at w;rcases J with e | ⟨e,C⟩
  ·rw[if_neg e]at a w;rw[if_neg (fun t=>e t.2)]at b;exact m a (Nat.le_trans b (h.ackle k U q (by omega)).2.2) (h.ackOld k U i q r a o b w)
  ·rw[if_neg (fun t=>C t.1),e,h.ackn q hl]at b;omega
 ·have D:g.vote k U=some c:=D;rw[d]at a;rw[v]at b;rw[p]at w;show(g.lead j).Has n (g.cl c U) z i;by_cases e:z=T
  ·by_cases C:k=j
   ·have y:=(h.votes k U c q D).1;rw[C,<-s]at y;omega
   ·rw[if_neg (fun t=>C t.1),e,h.ackn q hl]at b;omega
  ·rw[if_neg e]at a w;rw[if_neg (fun t=>e t.2)]at b;exact m a (Nat.le_trans b (h.ackle k z q (by omega)).2.2) (h.voter k c U z i q D r a o b w)
 ·rw[d]at a f;rw[p]at b w;by_cases O:z=T
  ·rw[if_pos O]at b w;have y:=(B i o b).2.1;omega
  ·rw[if_neg O]at f b w;by_cases e:U=T
   ·
    subst e;have t:(g.lead j).gl U=g.fl j:=by rw[p,if_pos rfl]
    rw[t];by_cases x:∃k,k<n/\g.vote k U=some j/\i<=g.ack k z
    ·obtain⟨k,q,D,R⟩:=x;have y:=h.voter k j U z i q D r f o R w;rw[hc]at y;exact m f b y
    ·refine m f b (.inr (gq hm fun k q H=> ?_));simp only[decide_eq_true_eq]at H ⊢;refine⟨?_,?_⟩
     ·have N:=(h.votes k U j q H).1;omega
     ·by_cases N:i<=g.ack k z
      ·exact absurd ⟨k,q,H,N⟩ x
      ·omega
   ·rw[if_neg e]at a;have t:(g.lead j).gl U=g.gl U:=by rw[p,if_neg e]
    rw[t];exact m f b (h.elect U z i a f r o b w)
 ·rw[d]at a;by_cases e:U=T
  ·rw[if_pos e]at a;injection a with a;subst a;rw[e];exact hm
  ·rw[if_neg e]at a;exact h.ldrMaj U c a
 ·rw[d]at a;by_cases e:U=T
  ·rw[if_pos e]at a;injection a with a;subst a;rw[e];exact⟨by show T<=g.bt j;omega,hT,hj⟩
  ·rw[if_neg e]at a;exact h.ldrBt U c a
 ·rw[d]at r;rw[p];by_cases e:U=T
  ·rw[if_pos e];exact h.fb j hj
  ·rw[if_neg e]at r ⊢;exact h.gb U r
end
section
variable {n j : Nat} {g g' : Gh}
theorem qd{l r:List ar}{i:Nat}(a:i<=l.length):dm (l++r) i=dm l i:=jQ (List.prefix_append l r) a
theorem iE{l r:List ar}{i:Nat}(a:i<=l.length):(l++r).take i=l.take i:=List.take_append_of_le_length a
theorem wS(l:List ar)(it:ar):dm (l++ [it]) (l.length+1)=it.1:=by
 unfold dm;rw[if_neg (by omega),show l.length+1-1=l.length by omega,List.getD_eq_getElem?_getD,List.getElem?_append_right (Nat.le_refl _)]
 simp
theorem Gh.Lm.snoc{T:Int}{l r:List ar}{i:Nat}(h:g.Lm T l i)(hi:i<=l.length):g.Lm T (l++r) i:=by unfold Gh.Lm at h ⊢;rw[qd hi,iE hi];exact h
theorem iD{l:List ar}{i m:Nat}(a:i<=m):dm (l.take m) i=dm l i:=dN (i:=i) (by rw[List.take_take,Nat.min_eq_left a]) (Nat.le_refl _)
theorem Gh.Lm.take{T:Int}{l:List ar}{i m:Nat}(h:g.Lm T l i)(hi:i<=m):g.Lm T (l.take m) i:=by unfold Gh.Lm at h ⊢;rw[iD hi,List.take_take,Nat.min_eq_left hi];exact h
theorem Gh.Has.snoc{T:Int}{l r:List ar}{i:Nat}(h:g.Has n l T i):g.Has n (l++r) T i:=by
 rcases h with⟨a,b⟩ | a
 ·exact .inl ⟨by rw[List.length_append];omega,by rw[iE a];exact b⟩
 ·exact .inr a
def Gh.append(g:Gh)(j:Nat)(it:ar):Gh:={ g with fl:=rS g.fl j (g.fl j++ [it]),gl:=qk g.gl (g.bt j) (g.fl j++ [it]),ack:=eC g.ack j (g.bt j) ((g.fl j).length+1),cnt:=g.cnt+1 }
theorem Gh.append_ext(h:g.Ok n)(hj:j<n){it:ar}(b:g.gl (g.bt j)=g.fl j):g.Ext (g.append j it) n:=by
 refine⟨fun _ _ h=>h,fun T c=> ?_,fun k T a=> ?_,fun k T a hT=> ?_,fun _ _=>Int.le_refl _,fun _ _ _ _ h=>h,fun _ _ _ _=>rfl,Nat.le_refl _⟩
 ·show g.gl T <+:qk g.gl (g.bt j) (g.fl j++ [it]) T;by_cases e:T=g.bt j
  ·subst e;rw[ge,b];exact List.prefix_append _ _
  ·rw[eF _ _ e];exact List.prefix_refl _
 ·show g.ack k T<=eC g.ack j (g.bt j) ((g.fl j).length+1) k T;by_cases e:k=j/\T=g.bt j
  ·obtain⟨rfl,rfl⟩:=e;rw[cA];have c:=(h.ackNow k a).2;omega
  ·rw[bw _ _ e];exact Nat.le_refl _
 ·exact bw _ _ (fun e=>by obtain⟨rfl,rfl⟩:=e;omega)
theorem Gh.append_step(h:g.Ok n)(hj:j<n){it:ar}(b:g.ldr (g.bt j)=some j)(hg:g.gl (g.bt j)=g.fl j):g.Step (g.append j it) n j:=
 ⟨Gh.append_ext h hj hg,fun k a=>fF _ _ a,fun _ _=>rfl,fun _ _ _=>rfl,fun _ _ _=>rfl,fun k T a=>bw _ _ (fun e=>a e.1),fun T hT=>by
  by_cases e:T=g.bt j
  ·subst e;exact absurd b hT
  ·exact⟨eF _ _ e,rfl⟩,rfl⟩
theorem Gh.append_ok(h:g.Ok n)(hj:j<n){it:ar}(S:g.ldr (g.bt j)=some j)(hg:g.gl (g.bt j)=g.fl j)(hit:it.1=g.bt j)(hib:it.2.length<=50):(g.append j it).Ok n:=by
 have O:g.Ext (g.append j it) n:=Gh.append_ext h hj hg;obtain⟨T,q⟩:∃T,T=g.bt j:=⟨_,rfl⟩
 have m:∀U,(g.append j it).gl U=if U=T then g.fl j++ [it] else g.gl U:=fun U=>by rw[q];rfl
 have B:∀k,(g.append j it).fl k=if k=j then g.fl j++ [it] else g.fl k:=fun k=>rfl
 have p:∀k U,(g.append j it).ack k U=if k=j/\U=T then(g.fl j).length+1 else g.ack k U:=fun k U=>by rw[q];rfl
 rw[<-q]at S hg hit;have H:g.ldr T≠none:=by rw[S];exact fun e=>by cases e
 have X:=(h.ldrBt T j S).2.1;have F:∀ {U:Int} {l:List ar} {i:Nat},g.Lm U l i->(g.append j it).Lm U l i:=fun D=>O.lm (Int.le_refl _) D
 have s:∀ {U:Int} {l:List ar} {i:Nat},g.ldr U≠none->i<=(g.gl U).length->g.Has n l U i->(g.append j it).Has n l U i:=fun d b w=>O.has d b w
 have A:∀i,1<=i->i<=(g.fl j++ [it]).length->(g.append j it).Lm T (g.fl j++ [it]) i:=fun i d b=>by
  rw[List.length_append,List.length_singleton]at b;by_cases w:i<=(g.fl j).length
  ·have D:=h.gline T H i d (by rw[hg];exact w);rw[hg]at D;exact(F D).snoc w
  ·have e:i=(g.fl j).length+1:=by omega
   have t:dm (g.fl j++ [it]) i=T:=by rw[e,wS,hit]
   refine⟨by rw[t];exact X,by rw[t];exact Int.le_refl _,by rw[t];exact H,?_,?_⟩
   ·rw[t,m,if_pos rfl,List.length_append,List.length_singleton];omega
   ·rw[t,m,if_pos rfl]
 have G:∀U i,g.ldr U≠none->i<=(g.gl U).length->dm ((g.append j it).gl U) i=dm (g.gl U) i:=fun U i d b=>jQ (O.gl U d) b
 have C:∀k,k<n->g.ack k T<=(g.fl j).length:=fun k f=>by
  rcases Nat.eq_zero_or_pos (g.ack k T) with D | D
  ·omega
  ·have:=(h.ackle k T f D).2.2;rw[hg]at this;exact this
 refine⟨fun U z i d b=> ?_,fun k f i d b=> ?_,fun c U W i d b=>F (h.cline c U W i d b),fun k U f d=> ?_,fun k f=> ?_,fun k U i f z a d b w=> ?_,h.votes,fun k c U x i f P z a d b w=> ?_,fun U x i a o z d b w=> ?_,h.ldrMaj,h.ldrBt,fun k f=> ?_,fun U z=> ?_⟩
 ·by_cases e:U=T
  ·subst e;have t:(g.append j it).gl U=g.fl j++ [it]:=by rw[m,if_pos rfl]
   rw[t]at b ⊢;exact A i d b
  ·have t:(g.append j it).gl U=g.gl U:=by rw[m,if_neg e]
   rw[t]at b ⊢;exact F (h.gline U z i d b)
 ·show(g.append j it).Lm (g.bt k) ((g.append j it).fl k) i;by_cases e:k=j
  ·subst e;have t:(g.append k it).fl k=g.fl k++ [it]:=by rw[B,if_pos rfl]
   rw[t]at b ⊢;rw[<-q];exact A i d b
  ·have t:(g.append j it).fl k=g.fl k:=by rw[B,if_neg e]
   rw[t]at b ⊢;exact F (h.fline k f i d b)
 ·show g.ldr U≠none/\U<=g.bt k/\(g.append j it).ack k U<=((g.append j it).gl U).length;rw[p]at d ⊢;by_cases e:k=j/\U=T
  ·obtain⟨rfl,rfl⟩:=e;rw[if_pos ⟨rfl,rfl⟩,m,if_pos rfl,List.length_append,List.length_singleton];exact⟨H,by rw[q];exact Int.le_refl _,Nat.le_refl _⟩
  ·rw[if_neg e]at d ⊢;obtain⟨L,R,a3⟩:=h.ackle k U f d;exact⟨L,R,Nat.le_trans a3 (O.gl U L).length_le⟩
 ·show((g.append j it).fl k).take ((g.append j it).ack k (g.bt k))=((g.append j it).gl (g.bt k)).take ((g.append j it).ack k (g.bt k))/\(g.append j it).ack k (g.bt k)<=((g.append j it).fl k).length;rw[B,m,p];by_cases e:k=j
  ·subst e;rw[if_pos rfl,if_pos q.symm,if_pos ⟨rfl,q.symm⟩];exact⟨rfl,by rw[List.length_append,List.length_singleton];exact Nat.le_refl _⟩
  ·rw[if_neg e,if_neg (fun t=>e t.1)];obtain⟨L,R⟩:=h.ackNow k f;by_cases J:g.bt k=T
   ·rw[if_pos J,iE (by rw[J];exact C k f)];rw[J,hg]at L;rw[J];exact⟨L,by rw[<-J];exact R⟩
   ·rw[if_neg J];exact⟨L,R⟩
 ·have z:U<g.bt k:=z;have a:g.ldr U≠none:=a;rw[p]at b;have I:¬(k=j/\U=T):=fun e=>by
   obtain⟨rfl,rfl⟩:=e;omega
  rw[if_neg I]at b;have Y:=(h.ackle k U f (by omega)).2.2;rw[G U i a (by omega)]at w;have N:=s a (Nat.le_trans b Y) (h.ackOld k U i f z a d b w);rw[B];by_cases e:k=j
  ·subst e;rw[if_pos rfl];exact N.snoc
  ·rw[if_neg e];exact N
 ·have P:g.vote k U=some c:=P;have a:g.ldr x≠none:=a;rw[p]at b;have I:¬(k=j/\x=T):=fun e=>by
   obtain⟨rfl,rfl⟩:=e;have D:=(h.votes k U c f P).1;omega
  rw[if_neg I]at b;have Y:=(h.ackle k x f (by omega)).2.2;rw[G x i a (by omega)]at w;exact s a (Nat.le_trans b Y) (h.voter k c U x i f P z a d b w)
 ·have a:g.ldr U≠none:=a;have o:g.ldr x≠none:=o;by_cases M:i<=(g.gl x).length
  ·rw[G x i o M]at w;have N:=s o M (h.elect U x i a o z d M w);rw[m];by_cases e:U=T
   ·subst e;rw[if_pos rfl,<-hg];exact N.snoc
   ·rw[if_neg e];exact N
  ·have e0:x=T:=by
    by_cases e:x=T
    ·exact e
    ·rw[m,if_neg e]at b;exact absurd b M
   subst e0;rw[m,if_pos rfl,List.length_append,List.length_singleton]at b;rw[hg]at M;obtain⟨c,hc⟩:∃c,g.ldr U=some c:=by
    cases D:g.ldr U with
    | none=>exact absurd D a
    | some c=>exact⟨c,rfl⟩
   refine .inr (gq (h.ldrMaj U c hc) fun k f hp=> ?_);simp only[decide_eq_true_eq]at hp ⊢;have h8:=(h.votes k U c f hp).1;have V:k≠j:=fun e=>by rw[e,<-q]at h8;omega
   rw[p,if_neg (fun e=>V e.1)];have D:=C k f;exact⟨by show x<g.bt k;omega,by omega⟩
 ·have r:(g.fl j++ [it]).length<=g.cnt+1/\∀y∈g.fl j++ [it],y.2.length<=50:=by
   obtain⟨f1,Z⟩:=h.fb j hj;refine⟨by rw[List.length_append,List.length_singleton];omega,fun y v=> ?_⟩;rcases List.mem_append.1 v with v | v
   ·exact Z y v
   ·rw[List.mem_singleton]at v;subst v;exact hib
  rw[B];by_cases e:k=j
  ·rw[if_pos e];exact r
  ·rw[if_neg e];exact⟨Nat.le_succ_of_le (h.fb k f).1,(h.fb k f).2⟩
 ·have r:(g.fl j++ [it]).length<=g.cnt+1/\∀y∈g.fl j++ [it],y.2.length<=50:=by
   obtain⟨f1,Z⟩:=h.fb j hj;refine⟨by rw[List.length_append,List.length_singleton];omega,fun y v=> ?_⟩;rcases List.mem_append.1 v with v | v
   ·exact Z y v
   ·rw[List.mem_singleton]at v;subst v;exact hib
  rw[m];by_cases e:U=T
  ·rw[if_pos e];exact r
  ·rw[if_neg e];exact⟨Nat.le_succ_of_le (h.gb U z).1,(h.gb U z).2⟩
def Gh.follow(g:Gh)(j:Nat)(F:List ar)(m:Nat):Gh:={ g with fl:=rS g.fl j F,ack:=eC g.ack j (g.bt j) (max (g.ack j (g.bt j)) m) }
theorem Gh.follow_ext(F:List ar)(m:Nat):g.Ext (g.follow j F m) n:=by
 refine⟨fun _ _ h=>h,fun T b=>List.prefix_refl _,fun k T a=> ?_,fun k T a hT=> ?_,fun _ _=>Int.le_refl _,fun _ _ _ _ h=>h,fun _ _ _ _=>rfl,Nat.le_refl _⟩
 ·show g.ack k T<=eC g.ack j (g.bt j) (max (g.ack j (g.bt j)) m) k T;by_cases e:k=j/\T=g.bt j
  ·obtain⟨rfl,rfl⟩:=e;rw[cA];omega
  ·rw[bw _ _ e];exact Nat.le_refl _
 ·exact bw _ _ (fun e=>by obtain⟨rfl,rfl⟩:=e;omega)
theorem Gh.follow_step(F:List ar)(m:Nat):g.Step (g.follow j F m) n j:=⟨Gh.follow_ext F m,fun k a=>fF _ _ a,fun _ _=>rfl,fun _ _ _=>rfl,fun _ _ _=>rfl,fun k T a=>bw _ _ (fun e=>a e.1),fun _ _=>⟨rfl,rfl⟩,rfl⟩
theorem Gh.follow_ok(h:g.Ok n)(hj:j<n){F:List ar}{m:Nat}(C:g.ldr (g.bt j)≠none)(hm:m<=(g.gl (g.bt j)).length)
 (D:(F=g.fl j/\(g.fl j).take m=(g.gl (g.bt j)).take m/\m<=(g.fl j).length)\/(F=(g.gl (g.bt j)).take m/\∃d,1<=d/\d<=m/\¬(d<=(g.fl j).length/\(g.fl j).take d=(g.gl (g.bt j)).take d))):(g.follow j F m).Ok n:=by
 have S:g.Ext (g.follow j F m) n:=Gh.follow_ext F m;obtain⟨T,q⟩:∃T,T=g.bt j:=⟨_,rfl⟩
 have t:∀k,(g.follow j F m).fl k=if k=j then F else g.fl k:=fun k=>rfl
 have s:∀k U,(g.follow j F m).ack k U=if k=j/\U=T then max (g.ack j T) m else g.ack k U:=fun k U=>by rw[q];rfl
 rw[<-q]at C hm D;have V:∀ {U:Int} {l:List ar} {i:Nat},g.Lm U l i->(g.follow j F m).Lm U l i:=fun A=>A
 have a:∀ {U:Int} {l:List ar} {i:Nat},g.ldr U≠none->i<=(g.gl U).length->g.Has n l U i->(g.follow j F m).Has n l U i:=fun p b w=>S.has p b w
 obtain⟨N,P⟩:=h.ackNow j hj;rw[<-q]at N P;have r:∀ {k:Nat} {U:Int},¬(k=j/\U=T)->(g.follow j F m).ack k U=g.ack k U:=fun e=>by rw[s,if_neg e]
 refine⟨h.gline,fun k o i p b=> ?_,h.cline,fun k U o p=> ?_,fun k o=> ?_,fun k U i o z f p b w=> ?_,h.votes,fun k c U H i o I z f p b w=> ?_,fun U H i f v z p b w=>a v b (h.elect U H i f v z p b w),h.ldrMaj,h.ldrBt,fun k o=> ?_,h.gb⟩
 ·show g.Lm (g.bt k) ((g.follow j F m).fl k) i;rw[t]at b ⊢;by_cases e:k=j
  ·subst e;rw[if_pos rfl]at b ⊢;rcases D with⟨rfl, -, -⟩ | ⟨rfl, -⟩
   ·exact h.fline k o i p b
   ·rw[List.length_take]at b;rw[<-q];exact(h.gline T C i p (by omega)).take (by omega)
  ·rw[if_neg e]at b ⊢;exact h.fline k o i p b
 ·show g.ldr U≠none/\U<=g.bt k/\(g.follow j F m).ack k U<=(g.gl U).length;rw[s]at p ⊢;by_cases e:k=j/\U=T
  ·obtain⟨rfl,rfl⟩:=e;rw[if_pos ⟨rfl,rfl⟩];refine⟨C,by rw[q];exact Int.le_refl _,?_⟩;rcases Nat.eq_zero_or_pos (g.ack k U) with A | A
   ·omega
   ·have:=(h.ackle k U o A).2.2;omega
  ·rw[if_neg e]at p ⊢;exact h.ackle k U o p
 ·show((g.follow j F m).fl k).take ((g.follow j F m).ack k (g.bt k))=(g.gl (g.bt k)).take ((g.follow j F m).ack k (g.bt k))/\(g.follow j F m).ack k (g.bt k)<=((g.follow j F m).fl k).length;rw[t,s];by_cases e:k=j
  ·subst e;rw[if_pos rfl,if_pos ⟨rfl,q.symm⟩,<-q];rcases D with⟨rfl,c2,c3⟩ | ⟨rfl,d,d1,d2,M⟩
   ·by_cases L:g.ack k T<=m
    ·rw[Nat.max_eq_right L];exact⟨c2,c3⟩
    ·rw[Nat.max_eq_left (by omega)];exact⟨N,P⟩
   ·have L:g.ack k T<=m:=by
     by_cases A:d<=g.ack k T
     ·exact absurd ⟨by omega,cD N A⟩ M
     ·omega
    rw[Nat.max_eq_right L,List.take_take,Nat.min_self,List.length_take];exact⟨rfl,by omega⟩
  ·rw[if_neg e,if_neg (fun Y=>e Y.1)];exact h.ackNow k o
 ·have z:U<g.bt k:=z;have x:¬(k=j/\U=T):=fun e=>by
   obtain⟨rfl,rfl⟩:=e;omega
  rw[r x]at b;have B:=(h.ackle k U o (by omega)).2.2;have G:=h.ackOld k U i o z f p b w;rw[t];by_cases e:k=j
  ·subst e;rw[if_pos rfl];rcases D with⟨rfl,c2,c3⟩ | ⟨rfl,d,d1,d2,M⟩
   ·exact a f (Nat.le_trans b B) G
   ·refine a f (Nat.le_trans b B) ?_;rcases G with⟨e1,e2⟩ | G
    ·rcases h.elect T U i C f (by omega) p (Nat.le_trans b B) w with⟨e3,O⟩ | W
     ·have Z:(g.fl k).take i=(g.gl T).take i:=e2.trans O.symm;by_cases J:i<=m
      ·exact .inl ⟨by rw[List.length_take];omega,by rw[List.take_take,Nat.min_eq_left J];exact O⟩
      ·exact absurd ⟨by omega,cD Z (by omega)⟩ M
     ·exact .inr W
    ·exact .inr G
  ·rw[if_neg e];exact a f (Nat.le_trans b B) G
 ·have I:g.vote k U=some c:=I;have x:¬(k=j/\H=T):=fun e=>by
   obtain⟨rfl,rfl⟩:=e;have A:=(h.votes k U c o I).1;omega
  rw[r x]at b;have B:=(h.ackle k H o (by omega)).2.2;exact a f (Nat.le_trans b B) (h.voter k c U H i o I z f p b w)
 ·show((g.follow j F m).fl k).length<=g.cnt/\∀it∈(g.follow j F m).fl k,it.2.length<=50;rw[t];by_cases e:k=j
  ·rw[if_pos e];rcases D with⟨rfl, -, -⟩ | ⟨rfl, -⟩
   ·exact h.fb j hj
   ·obtain⟨f1,X⟩:=h.gb T C;exact⟨by rw[List.length_take];omega,fun y R=>X y (List.mem_of_mem_take R)⟩
  ·rw[if_neg e];exact h.fb k o
end
def aL(F:List ar)(b:Nat):ae:=⟨b,dm F b,F.drop b⟩
section
variable {F G : List ar} {b : Nat}
theorem aN(a:b<=F.length):(aL F b).last=F.length:=by show(b:Int)+((F.drop b).length:Int)=F.length;rw[List.length_drop];omega
theorem gt(a:b<=F.length)(i:Nat):(aL F b).tm i=if b<=i/\i<=F.length then dm F i else -1:=by
 unfold ae.tm;rw[aN a];show(if (i:Int)=(b:Int) then dm F b else if (i:Int)<(b:Int)\/(F.length:Int)<(i:Int) then -1 else((F.drop b).getD ((i:Int)-(b:Int)-1).toNat (0,[])).1)=_;by_cases d:i=b
 ·subst d;rw[if_pos rfl,if_pos ⟨Nat.le_refl _,a⟩]
 ·rw[if_neg (by omega)];by_cases c:b<=i/\i<=F.length
  ·rw[if_neg (by omega),if_pos c];unfold dm;rw[if_neg (by omega),List.getD_eq_getElem?_getD,List.getD_eq_getElem?_getD,List.getElem?_drop,show b+((i:Int)-(b:Int)-1).toNat=i-1 by omega]
  ·rw[if_pos (by omega),if_neg c]
theorem eT(d:(aL F b).Good)(hb:b<=F.length)(i:Nat):bk (aL F b) i=if b<=i/\i<=F.length then(dm F i,true) else(0,false):=by
 have a:=d.tm_ge i;rw[aN hb]at a;have f:=gt hb i;have c:(aL F b).base=b:=rfl;rw[c]at a;unfold bk;by_cases h:b<=i/\i<=F.length
 ·rw[if_pos (a.2 (by omega)),f,if_pos h,if_pos h]
 ·rw[if_neg (fun e=>h (by have:=a.1 e;omega)),if_neg h]
theorem sg(a:b<=F.length)(it:ar):((aL F b).add it=(aL (F++ [it]) b,(F.length:Int)+1))\/((aL F b).add it=(aL F b,0)):=by
 rcases iw (aL F b) it with e | ⟨e, -⟩
 ·exact .inr e
 ·refine .inl ?_;rw[e,aN a];have c:({ aL F b with l:=(aL F b).l++ [it] }:ae)=aL (F++ [it]) b:=by
   unfold aL;rw[qd a,List.drop_append_of_le_length a]
  rw[c]
theorem lA(c:(aL F b).Good)(hb:b<=F.length){i:Nat}(h1:b<=i)(h2:i<=F.length):(aL F b).drop i=(aL F i,true):=by have a:=gt hb i;rw[if_pos ⟨h1,h2⟩]at a;have d:=(c.tm_ge i).2 ⟨by show(b:Int)<=i;omega,by rw[aN hb];omega⟩;unfold ae.drop;rw[if_neg (by omega),a];show((⟨(i:Int),dm F i,(F.drop b).drop ((i:Int)-(b:Int)).toNat⟩:ae),true)=_;rw[List.drop_drop,show b+((i:Int)-(b:Int)).toNat=i by omega];rfl
theorem qP(c:b<=F.length){i:Nat}(h1:b<i){m:Nat}(d:1<=m):(aL F b).from_ i m=(F.drop (i-1)).take m:=by
 unfold ae.from_;rw[aN c];have a:(aL F b).base=b:=rfl;rw[a];by_cases e:i<=F.length
 ·rw[if_neg (by omega)];show((F.drop b).drop ((i:Int)-(b:Int)-1).toNat).take ((m:Int)).toNat=_;rw[List.drop_drop,show b+((i:Int)-(b:Int)-1).toNat=i-1 by omega,show((m:Int)).toNat=m by omega]
 ·rw[if_pos (by omega),List.drop_of_length_le (by omega)]
  simp
theorem lz(O:(aL F b).Good)(hb:b<=F.length){a len:Nat}{its:List ar}(f:its.length=len)(ha:a+len<=G.length)(hits:its=(G.drop a).take len)
 (p:F.take b=G.take b/\b<=G.length)(hsame:∀i,1<=i->i<=F.length->i<=G.length->dm F i=dm G i->F.take i=G.take i):
  ((aL F b).join a (dm G a) its=(aL F b,0,false))\/
  ((aL F b).join a (dm G a) its=(aL F b,0,true)/\a+len<=F.length/\F.take (a+len)=G.take (a+len))\/
  (∃j:Nat,(aL F b).join a (dm G a) its=(aL (G.take (a+len)) b,(j:Int),true)/\b<j/\1<=j/\j<=a+len/\a<j/\¬(j<=F.length/\F.take j=G.take j)/\F.take (j-1)=G.take (j-1)/\j-1<=F.length):=by
 have c:(aL F b).base=b:=rfl;have v:=aN hb;have h:∀m,m<len->(its.getD m (0,[])).1=dm G (a+1+m):=fun m L=>by unfold dm;rw[if_neg (by omega),hits,List.getD_eq_getElem?_getD,List.getD_eq_getElem?_getD,List.getElem?_take_of_lt L,List.getElem?_drop,show a+1+m-1=a+m by omega]
 have o:∀i:Nat,i<=G.length->(i<=b\/(aL F b).tm i=dm G i)->(b<=i->i<=F.length)->F.take i=G.take i:=fun i y t z=>by
  by_cases x:i<=b
  ·exact cD p.1 x
  ·rcases t with r | r
   ·omega
   ·have q:=z (by omega);rw[gt hb,if_pos ⟨by omega,q⟩]at r;exact hsame i (by omega) q y r
 rcases gv O (a:Int) (dm G a) its with e | ⟨e,U,D,s,I,C⟩ | ⟨J,k,e,U,D,s,I,C,n,T,S,r, -, -⟩
 ·exact .inl e
 ·refine .inr (.inl ⟨e,?_,?_⟩)
  ·rw[v,f]at s;omega
  ·rw[v]at D s;rw[f]at s;refine o (a+len) ha ?_ (fun _=>by omega);by_cases H:len=0
   ·rw[H,Nat.add_zero];by_cases R:b<=a
    ·exact .inr (I (by rw[c];omega))
    ·exact .inl (by omega)
   ·have n:=C (len-1) (by omega);rw[h (len-1) (by omega),show a+1+(len-1)=a+len by omega,c]at n;rcases n with n | n
    ·exact .inl (by omega)
    ·refine .inr ?_;rw[<-n]
     congr 1
     omega
 ·rw[c]at C;rw[v]at D n;obtain⟨j,N⟩:∃j:Nat,J=j:=⟨J.toNat,by omega⟩
  subst N;have w:j=a+1+k:=by omega
  have M:k<len:=by omega
  have g:F.take (j-1)=G.take (j-1):=by
   refine o (j-1) (by omega) ?_ (fun _=>by omega);by_cases H:k=0
   ·subst H;rw[w];exact .inr (T (by rw[c];omega))
   ·have d:=r (k-1) (by omega);rw[h (k-1) (by omega),show a+1+(k-1)=j-1 by omega,c]at d;rcases d with d | d
    ·exact .inl (by omega)
    ·refine .inr ?_;rw[<-d]
     congr 1
     omega
  refine .inr (.inr ⟨j,?_,by omega,by omega,by omega,by omega,fun P=> ?_,g,by omega⟩)
  ·rw[e];refine Prod.ext ?_ rfl;show({ aL F b with l:=(aL F b).l.take ((j:Int)-(b:Int)-1).toNat++its.drop k }:ae)=_;unfold aL;have Y:dm (G.take (a+len)) b=dm F b:=by
    rw[iD (by omega)];exact(dN g (by omega)).symm
   have X:(G.take (a+len)).drop b=(F.drop b).take ((j:Int)-(b:Int)-1).toNat++its.drop k:=by
    have W:(F.drop b).take ((j:Int)-(b:Int)-1).toNat=(F.take (j-1)).drop b:=by rw[List.drop_take,show((j:Int)-(b:Int)-1).toNat=j-1-b by omega]
    rw[W,g,hits,List.drop_take,List.drop_take,List.drop_take,List.drop_drop,show a+k=j-1 by omega];have V:(G.drop b).take (a+len-b)=(G.drop b).take (j-1-b)++((G.drop b).drop (j-1-b)).take (a+len-b-(j-1-b)):=by
     rw[<-List.take_add]
     congr 1
     omega
    rw[V,List.drop_drop,show b+(j-1-b)=j-1 by omega,show a+len-b-(j-1-b)=len-k by omega]
   rw[Y,X]
  ·obtain⟨B,A⟩:=P;apply S;rw[h k M,show a+1+k=j by omega,gt hb,if_pos ⟨by omega,B⟩];exact dN A (Nat.le_refl _)
end
def dn(a:Nat):List UInt8:= [UInt8.ofNat (a / 256),UInt8.ofNat a]
section
variable {n j : Nat} {g g' : Gh} {R R' : aa}
def Gh.Com(g:Gh)(n:Nat)(T:Int)(l:List ar)(m:Nat):Prop:=m<=l.length/\(m=0\/∃a b,a<=T/\g.Chosen n a b/\m<=b/\l.take m=(g.gl a).take m)
def Gh.Co(g:Gh)(n:Nat)(T:Int)(o:Nat):Prop:=o=0\/∃b a,b<=T/\g.Chosen n b a/\o<=a
theorem Gh.Com.co{T:Int}{l:List ar}{m:Nat}(h:g.Com n T l m):g.Co n T m:=by
 rcases h.2 with a | ⟨e,b,a,d,c, -⟩
 ·exact .inl a
 ·exact .inr ⟨e,b,a,d,c⟩
theorem Gh.Com.agree{T:Int}{l:List ar}{m:Nat}(h:g.Com n T l m)(hg:g.Ok n)(hl:g.ldr T≠none):m<=(g.gl T).length/\l.take m=(g.gl T).take m:=by
 rcases h.2 with a | ⟨j,f,a,d,c,b⟩
 ·subst a;exact⟨Nat.zero_le _,rfl⟩
 ·obtain⟨i,e⟩:=hg.kept d hl a;exact⟨by omega,b.trans (cD e c).symm⟩
theorem Gh.Co.com{T:Int}{l:List ar}{m o:Nat}(h:g.Co n T o)(hg:g.Ok n)(hl:g.ldr T≠none)(hm:m<=l.length)(ht:l.take m=(g.gl T).take m)(ho:m<=o):g.Com n T l m:=by
 refine⟨hm,?_⟩;rcases h with a | ⟨e,c,a,b,f⟩
 ·exact .inl (by omega)
 ·obtain⟨i,d⟩:=hg.kept b hl a;exact .inr ⟨e,c,a,b,by omega,ht.trans (cD d (by omega))⟩
theorem Gh.Com.le{T:Int}{l:List ar}{m m':Nat}(h:g.Com n T l m)(hm:m'<=m):g.Com n T l m':=by
 refine⟨Nat.le_trans hm h.1,?_⟩;rcases h.2 with a | ⟨e,b,a,d,f,c⟩
 ·exact .inl (by omega)
 ·exact .inr ⟨e,b,a,d,by omega,cD c hm⟩
theorem Gh.Ext.com(c:g.Ext g' n){T T':Int}{l a:List ar}{m:Nat}(h:g.Com n T l m)(hT:T<=T')(hl:m<=a.length)(ht:a.take m=l.take m):g'.Com n T' a m:=by
 refine⟨hl,?_⟩;rcases h.2 with d | ⟨e,f,d,b,j,i⟩
 ·exact .inl d
 ·refine .inr ⟨e,f,by omega,c.chosen b,j,ht.trans (i.trans ?_)⟩;exact(gX (c.gl e b.1) (by have:=b.2.2.1;omega)).symm
theorem Gh.Ext.co(c:g.Ext g' n){T T':Int}{o:Nat}(h:g.Co n T o)(hT:T<=T'):g'.Co n T' o:=by
 rcases h with a | ⟨f,b,a,e,d⟩
 ·exact .inl a
 ·exact .inr ⟨f,b,by omega,c.chosen e,d⟩
def RS(g:Gh)(b:Int)(st:List UInt8)(ap:Int)(jp:Bool):Prop:=(1<=b->st=dn b.toNat)/\ap<=g.sn/\(jp=true->st=dn ap.toNat)
theorem RS.mono{b c:Int}{st:List UInt8}{a:Bool}(h:RS g b st c a)(hs:g.sn<=g'.sn):RS g' b st c a:=⟨h.1,by have:=h.2.1;omega,h.2.2⟩
structure RI (g:Gh) (n j:Nat) (R:aa):Prop where
 ok:R.Ok
 me:R.me=j
 nn:R.n=n
 bt:R.bt=g.bt j
 ln:∃b,b<=(g.fl j).length/\R.line=aL (g.fl j) b
 vote:(R.bf= -1/\g.vote j R.bt=none)\/∃c:Nat,R.bf=c/\g.vote j R.bt=some c
 cand:R.role=1->g.cl j R.bt=g.fl j/\g.ldr R.bt≠some j/\∀k:Nat,R.votes.getD k 0≠0->k<n/\g.vote k R.bt=some j
 lead:R.role=2->g.ldr R.bt=some j/\g.gl R.bt=g.fl j/\(g.fl j).length<=g.ack j R.bt/\(∀k:Nat,k<n->R.mat.getD k 0<=g.ack k R.bt)/\∀k:Nat,k<n->1<=R.nxt.getD k 0/\R.nxt.getD k 0<=(g.fl j).length+1
 com:g.Com n R.bt (g.fl j) R.commit.toNat
 st:RS g R.line.base R.state R.applied R.jumped
structure Lt (g:Gh) (n j:Nat) (who:Int) (x:ax):Prop where
 right:aO x=true
 w0:0<=who
 w1:who<n
 wn:who≠j
 jn:j<n
 t:x.t<=g.bt j
 k1:x.k=1->1<=x.t/\x.a=(g.cl j x.t).length/\x.u=dm (g.cl j x.t) (g.cl j x.t).length
 k2:x.k=2->x.y=true->g.vote j x.t=some who.toNat
 k3:x.k=3->g.ldr x.t=some j/\∃a o:Nat,x.a=a/\x.o=o/\a+x.its.length<=(g.gl x.t).length/\x.u=dm (g.gl x.t) a/\x.its=((g.gl x.t).drop a).take x.its.length/\g.Co n x.t o
 k4:x.k=4->x.y=true->∃a:Nat,x.a=a/\a<=g.ack j x.t
 k5:x.k=5->g.ldr x.t=some j/\∃a:Nat,x.a=a/\1<=a/\a<=(g.gl x.t).length/\x.u=dm (g.gl x.t) a/\g.Co n x.t a/\x.b=dn a/\a<=g.sn
theorem gC{α:Type}{o:Option α}{x:α}(h:o=some x):o≠none:=by rw[h];exact fun e=>by cases e
theorem vU{a b:List ar}{i m:Nat}(h:a <+:b)(hi:i+m<=a.length):(b.drop i).take m=(a.drop i).take m:=by obtain⟨c,rfl⟩:=h;rw[List.drop_append_of_le_length (by omega),List.take_append_of_le_length (by rw[List.length_drop];omega)]
theorem Lt.ext{e:Int}{x:ax}(h:Lt g n j e x)(hx:g.Ext g' n):Lt g' n j e x:=by
 refine⟨h.right,h.w0,h.w1,h.wn,h.jn,Int.le_trans h.t (hx.bt j h.jn),fun b=> ?_,fun b k=>hx.vote j x.t _ h.jn (h.k2 b k),fun b=> ?_,fun b k=> ?_,fun b=> ?_⟩
 ·rw[hx.cl j x.t h.jn h.t];exact h.k1 b
 ·obtain⟨c,a,o,f,q,i,p,m,l⟩:=h.k3 b;have d:=hx.gl x.t (gC c);refine⟨hx.ldr _ _ c,a,o,f,q,Nat.le_trans i d.length_le,by rw[jQ d (by omega)];exact p,?_,hx.co l (Int.le_refl _)⟩;rw[vU d i];exact m
 ·obtain⟨a,c,f⟩:=h.k4 b k;exact⟨a,c,Nat.le_trans f (hx.ack j x.t h.jn)⟩
 ·obtain⟨c,a,f,q,i,p,m,l,r⟩:=h.k5 b;have d:=hx.gl x.t (gC c);exact⟨hx.ldr _ _ c,a,f,q,Nat.le_trans i d.length_le,by rw[jQ d (by omega)];exact p,hx.co m (Int.le_refl _),l,Nat.le_trans r hx.sn⟩
theorem RI.jn(h:RI g n j R):j<n:=by have c:=h.ok.men;have b:=h.me;have a:=h.nn;omega
theorem RI.other{d:Nat}(h:RI g n j R)(hs:g.Step g' n d)(hd:j≠d):RI g' n j R:=by
 have b:=hs.ext;have t:=h.jn;have l:=h.bt;refine⟨h.ok,h.me,h.nn,by rw[hs.bt j hd];exact l,by rw[hs.fl j hd];exact h.ln,by rw[hs.vote j _ hd];exact h.vote,fun i=> ?_,fun i=> ?_,?_,h.st.mono b.sn⟩
 ·obtain⟨p,o,c⟩:=h.cand i;refine⟨by rw[hs.cl j _ hd,hs.fl j hd];exact p,fun e=> ?_,fun k f=>⟨(c k f).1,b.vote k _ _ (c k f).1 (c k f).2⟩⟩;have m:=(hs.gl R.bt (by rw[e];intro a;injection a with a;exact hd a)).2;rw[m]at e;exact o e
 ·obtain⟨p,o,c,m,s⟩:=h.lead i;have e:=b.ldr _ _ p;have r:=(hs.gl R.bt (by rw[e];intro a;injection a with a;exact hd a)).1;refine⟨e,by rw[r,hs.fl j hd];exact o,by rw[hs.fl j hd,hs.ack j _ hd];exact c,fun k q=> ?_,by rw[hs.fl j hd];exact s⟩;have w:=m k q;have v:=b.ack k R.bt q;omega
 ·exact b.com h.com (Int.le_refl _) (by rw[hs.fl j hd];exact h.com.1) (by rw[hs.fl j hd])
def bA(d:Nat)(g:Gh)(n j:Nat)(R R':aa):Prop:=∃a,g.Step a n j/\a.Ok n/\RI a n j R'/\(∀y∈R'.out,y∈R.out\/Lt a n j y.1 y.2)/\a.cnt<=g.cnt+d
theorem bA.still{d:Nat}(b:g.Ok n)(h:RI g n j R')(ho:R'.out=R.out):bA d g n j R R':=⟨g, .refl g n j,b,h,fun y a=> .inl (by rw[<-ho];exact a),by omega⟩
theorem bA.posts{d:Nat}(a:g.Ok n)(h:RI g n j R')(ho:∀y∈R'.out,y∈R.out\/Lt g n j y.1 y.2):bA d g n j R R':=⟨g, .refl g n j,a,h,ho,by omega⟩
theorem bA.more{a:aa}{d1 d2 d:Nat}(h:bA d1 g n j R R')(k:∀g',g.Step g' n j->g'.Ok n->RI g' n j R'->bA d2 g' n j R' a)(hd:d1+d2<=d):bA d g n j R a:=by
 obtain⟨t,f,r,q,p,b⟩:=h;obtain⟨s,e,m,l,i,v⟩:=k t f r q;refine⟨s,f.trans e,m,l,fun y o=> ?_,by omega⟩;rcases i y o with b | b
 ·rcases p y b with c | c
  ·exact .inl c
  ·exact .inr (c.ext e.ext)
 ·exact .inr b
theorem fL{f:aa->Int->aa}{P:dg->Prop}(m:Int):∀(k:Nat) (i:Int) (R:aa),0<=i->i+k=m->(∀(o:List dg) (i:Int),0<=i->i<m->i≠R.me->∃y,f { R with out:=o } i={ R with out:=o++ [y] }/\P y)->∃o,bI f k i R={ R with out:=R.out++o }/\∀y∈o,P y
 | 0,i,R,_,_,_=>⟨[],by simp[bI],by simp⟩
 | k+1,i,R,h0,hm,hf=>by
  unfold bI;by_cases h:i=R.me
  ·rw[if_pos h];exact fL m k (i+1) R (by omega) (by omega) hf
  ·rw[if_neg h];obtain⟨y,e,l⟩:=hf R.out i h0 (by omega) h;have e:f R i={ R with out:=R.out++ [y] }:=e;rw[e];obtain⟨o,j,g⟩:=fL m k (i+1) { R with out:=R.out++ [y] } (by omega) (by omega) (fun o i a b c=>hf o i a b c);refine⟨y::o,?_,fun z d=> ?_⟩
   ·rw[j]
    simp
   ·rcases List.mem_cons.1 d with rfl | d
    ·exact l
    ·exact g z d
theorem mY{f:aa->Int->aa}{P:dg->Prop}(a:0<=R.n)(hf:∀(o:List dg) (i:Int),0<=i->i<R.n->i≠R.me->∃y,f { R with out:=o } i={ R with out:=o++ [y] }/\P y):∃o,R.others f={ R with out:=R.out++o }/\∀y∈o,P y:=fL R.n R.n.toNat 0 R (by omega) (by omega) hf
end
theorem sO(a:List Int)(h1:1<=a.length)(h7:a.length<=7):a.length / 2+1<=dJ a (cB a):=by have h:=oy a h1 h7;have b:=(nL a a).1;rw[h]at b;exact(b rfl).2
theorem rA(a:List Int)(x y:Int):dJ (a++ [y]) x=dJ a x+(if x<=y then 1 else 0):=by
 rw[gO]
 congr 1
 unfold dJ;by_cases h:x<=y
 ·simp[h]
 ·simp[h]
theorem sJ(a:List Int)(x:Int):∀i,i<=a.length->dJ (a.take i) x=ee i (fun k=>decide (x<=a.getD k 0)):=by
 intro i
 induction i with
 | zero=>intro _;simp[dJ,ee]
 | succ i ih=>
  intro c;have b:a.take (i+1)=a.take i++ [a.getD i 0]:=by
   rw[List.take_add_one,List.getElem?_eq_getElem (by omega)]
   congr 1
   rw[List.getD_eq_getElem?_getD,List.getElem?_eq_getElem (by omega)];rfl
  rw[b,rA,ih (by omega),cY]
  simp
theorem gm{x:ax}(d:1<=x.k/\x.k<=5)(ht:0<=x.t/\x.t<=1099511627776)(ha:0<=x.a/\x.a<=1099511627776)(hu:0<=x.u/\x.u<=1099511627776)(ho:0<=x.o/\x.o<=1099511627776)(hi:x.its.length<=16)(hb:x.b.length<=65536)(hr:∀it∈x.its,bj it=true)(hus:x=dI x):aO x=true:=by
 have f:(x.its.any fun it=> !bj it)=false:=by rw[List.any_eq_false];intro it c;rw[hr it c];simp
 have e:fH x (dI x)=true:=(kJ _ _).2 hus;simp only[aO,rI,Bool.and_eq_true,decide_eq_true_eq,f,e,Bool.not_false,and_true];exact⟨⟨d.1,d.2,ht⟩,⟨⟨ha,hu⟩,ho⟩,hi,hb⟩
theorem sU{x:ae}(a:x.Good)(i:Int):0<=(bk x i).1/\(bk x i).1<=1099511627776:=by
 have h:=a.tm_le i;unfold bk;split
 ·rename_i b;exact⟨b,h⟩
 ·exact⟨Int.le_refl _,by simp⟩
section
variable {n j : Nat} {g g' : Gh} {R R' : aa}
theorem bi(l:List Int)(i k:Nat)(v:Int)(hi:i<l.length):(l.set i v).getD k 0=if k=i then v else l.getD k 0:=by
 rw[List.getD_eq_getElem?_getD,List.getD_eq_getElem?_getD,List.getElem?_set];by_cases h:i=k
 ·subst h;rw[if_pos rfl,if_pos hi,if_pos rfl];rfl
 ·rw[if_neg h,if_neg (fun e=>h e.symm)]
theorem RI.look(W:g.Ok n)(h:RI g n j R)(hr:R.role=2):RI g n j R.look/\R.look.out=R.out:=by
 obtain⟨m,c,he,y,P⟩:=ch R;have o:=iF h.ok (h.ok.rb (by omega));obtain⟨b,z,f⟩:=h.ln;obtain⟨x,q,H,G,F⟩:=h.lead hr;have M:=h.jn;have V:=h.nn;have J:=h.ok.n7;have t:=h.ok.m7;have i:R.line.last=(g.fl j).length:=by rw[f];exact aN z
 have d:∀k:Nat,k<n->m.getD k 0<=g.ack k R.bt:=fun k v=>by
  rw[y,h.me,i,show((j:Int)).toNat=j by omega,bi _ _ _ _ (by omega)];by_cases e:k=j
  ·subst e;rw[if_pos rfl];omega
  ·rw[if_neg e];exact G k v
 rw[he]at o ⊢;refine⟨⟨o,h.me,h.nn,h.bt,h.ln,h.vote,h.cand,fun _=>⟨x,q,H,d,F⟩,?_,h.st⟩,rfl⟩;show g.Com n R.bt (g.fl j) c.toNat;rcases P with rfl | ⟨Y,D,a⟩
 ·exact h.com
 ·have S:=h.ok.rb (by omega);have O:=h.ok.ap0;have N:=h.ok.ap1;have T:=h.ok.line.b0;obtain⟨C,A⟩:∃C:Nat,c=C:=⟨c.toNat,by omega⟩
  have p:=h.ok.line;rw[f]at p;have U:=eT p z C;rw[f,A,U]at a;have l:b<=C/\C<=(g.fl j).length:=by
   by_cases e:b<=C/\C<=(g.fl j).length
   ·exact e
   ·rw[if_neg e]at a;have a:(0:Int)=R.bt:=a;omega
  rw[if_pos l]at a;have a:dm (g.fl j) C=R.bt:=a;rw[A,show((C:Int)).toNat=C by omega];have w:1<=C:=by
   by_cases e:C=0
   ·rw[e]at a;have a:(0:Int)=R.bt:=a;omega
   ·omega
  refine⟨l.2, .inr ⟨R.bt,C,Int.le_refl _,⟨gC x,w,by rw[q];exact l.2,by rw[q];exact a,?_⟩,Nat.le_refl _,by rw[q]⟩⟩;have L:m.length=7:=by rw[y];simp[t]
  have s:R.n.toNat=n:=by omega
  rw[s]at D;have r:(m.take n).length=n:=by rw[List.length_take];omega
  have B:=sO (m.take n) (by omega) (by omega);rw[<-D,r,sJ m c n (by omega)]at B;refine gq B fun k v I=> ?_
  simp only[decide_eq_true_eq]at I ⊢;have X:=d k v;omega
theorem RI.send(hg:g.Ok n)(h:RI g n j R)(hr:R.role=2)(o:List dg){i:Int}(h0:0<=i)(h1:i<R.n)(hi:i≠R.me):∃y,aa.send { R with out:=o } i={ R with out:=o++ [y] }/\Lt g n j y.1 y.2:=by
 obtain⟨b,x,d⟩:=h.ln;obtain⟨L,v,l3,l4,O⟩:=h.lead hr;have w:=h.jn;have hn:=h.nn;have T:=h.me;have W:=h.bt;have a:=h.ok;have c:=a.line;have U:=bP c;have G:R.line.last=(g.fl j).length:=by rw[d];exact aN x
 have k:R.line.base=b:=by rw[d];rfl
 obtain⟨x1,Z⟩:=O i.toNat (by omega);have D:((aa.send { R with out:=o } i)=if R.nxt.getD i.toNat 0<=R.line.base then({ R with out:=o }:aa).post i ⟨5,0,R.line.base,R.line.term,0,false,[],R.state⟩ else({ R with out:=o }:aa).post i ⟨3,0,R.nxt.getD i.toNat 0-1,(bk R.line (R.nxt.getD i.toNat 0-1)).1,R.commit,false,R.line.from_ (R.nxt.getD i.toNat 0-1+1) 16,[]⟩):=rfl;rw[D];have r:=a.bt0;have q:=a.bt1;have J:=c.b0;have I:=c.b1;have B:=c.t0;have A:=c.t1;have N:=a.ap0;have M:=a.ap1;have V:=a.cm;split
 ·rename_i F
  refine⟨_,rfl,?_⟩;have C:=h.st.1 (by omega);refine⟨gm (by simp) ⟨r,q⟩ ⟨J,I⟩ ⟨B,A⟩ (by simp) (by simp) (by show R.state.length<=65536;exact a.st) (by simp) rfl,h0,by show i<n;omega,by show i≠j;omega,w,by show R.bt<=g.bt j;omega,fun e=>by simp at e,fun e=>by simp at e,fun e=>by simp at e,fun e=>by simp at e,fun _=>⟨L,b,k,by omega,by show b<=(g.gl R.bt).length;rw[v];exact x,?_,?_,?_,by have l:=h.st.2.1;omega⟩⟩
  ·show R.line.term=dm (g.gl R.bt) b;rw[v,d];rfl
  ·have l:=h.com.co;rcases l with l | ⟨Y,P,l,X,h7⟩
   ·exact .inl (by omega)
   ·exact .inr ⟨Y,P,l,X,by omega⟩
  ·show R.state=dn b;rw[C,k];congr 1
 ·rename_i F
  refine⟨_,rfl,?_⟩;obtain⟨p,S⟩:∃p:Nat,R.nxt.getD i.toNat 0-1=p:=⟨(R.nxt.getD i.toNat 0-1).toNat,by omega⟩
  rw[S];rw[d]at c;have z:(bk R.line (p:Int)).1=dm (g.fl j) p:=by rw[d,eT c x p,if_pos ⟨by omega,by omega⟩]
  have t:R.line.from_ ((p:Int)+1) 16=((g.fl j).drop p).take 16:=by have l:=qP x (i:=p+1) (by omega) (m:=16) (by omega);rw[d];exact l
  have H:=sU a.line (p:Int);have s:(((g.fl j).drop p).take 16).length=min 16 ((g.fl j).length-p):=by rw[List.length_take,List.length_drop]
  refine⟨gm (by simp) ⟨r,q⟩ ⟨by show(0:Int)<=(p:Int);omega,by show(p:Int)<=_;omega⟩ H ⟨by show 0<=R.commit;omega,by show R.commit<=_;omega⟩ (by show(R.line.from_ ((p:Int)+1) 16).length<=16;rw[t,s];omega) (by simp) (fun it f=> ?_) rfl,h0,by show i<n;omega,by show i≠j;omega,w,by show R.bt<=g.bt j;omega,fun e=>by simp at e,fun e=>by simp at e,fun _=>⟨L,p,R.commit.toNat,rfl,by show R.commit=_;omega,?_,?_,?_,h.com.co⟩,fun e=>by simp at e,fun e=>by simp at e⟩
  ·have f:it∈R.line.from_ ((p:Int)+1) 16:=f;unfold ae.from_ at f;split at f
   ·cases f
   ·exact a.line.its it (List.mem_of_mem_drop (List.mem_of_mem_take f))
  ·show p+(R.line.from_ ((p:Int)+1) 16).length<=(g.gl R.bt).length;rw[t,s,v];omega
  ·show(bk R.line (p:Int)).1=dm (g.gl R.bt) p;rw[z,v]
  ·show R.line.from_ ((p:Int)+1) 16=((g.gl R.bt).drop p).take (R.line.from_ ((p:Int)+1) 16).length;rw[t,v,s];by_cases l:16<=(g.fl j).length-p
   ·rw[Nat.min_eq_left l]
   ·rw[Nat.min_eq_right (by omega),List.take_of_length_le (by rw[List.length_drop];omega),List.take_of_length_le (by rw[List.length_drop];omega)]
theorem RI.outs(h:RI g n j R)(o:List dg):RI g n j { R with out:=o }:=⟨h.ok.out o,h.me,h.nn,h.bt,h.ln,h.vote,h.cand,h.lead,h.com,h.st⟩
theorem RI.beat{d:Nat}(k:g.Ok n)(h:RI g n j R)(hr:R.role=2):bA d g n j R (R.others aa.send):=by
 have q:=h.ok.n1;obtain⟨o,p,m⟩:=mY (R:=R) (f:=aa.send) (P:=fun y=>Lt g n j y.1 y.2) (by omega) (fun o i a b c=>h.send k hr o a b c);rw[p];refine .posts k (h.outs _) fun y l=> ?_
 rcases List.mem_append.1 l with e | e
 ·exact .inl e
 ·exact .inr (m y e)
end
theorem uJ{p q:Nat->Bool}{n:Nat}:∀m,(∀k,k<m->p k=true->k<n/\q k=true)->ee m p<=ee n q:=by
 intro m h;have s:ee m p<=ee m (fun k=>decide (k<n) && q k):=kX fun k j c=>by obtain⟨a,b⟩:=h k j c;simp[a,b]
 have r:∀m,ee m (fun k=>decide (k<n) && q k)<=ee n q:=by
  intro m;have f:∀i,i<=n->ee i (fun k=>decide (k<n) && q k)<=ee i q:=fun i _=>kX fun k _ c=>by simp at c;exact c.2
  have o:∀d,ee (n+d) (fun k=>decide (k<n) && q k)=ee n (fun k=>decide (k<n) && q k):=by
   intro d
   induction d with
   | zero=>rfl
   | succ d ih=>rw[show n+(d+1)=n+d+1 by omega,cY,ih,if_neg (by simp only[Bool.and_eq_true,decide_eq_true_eq];omega)];rfl
  have l:∀d i,ee i q<=ee (i+d) q:=by
   intro d
   induction d with
   | zero=>intro i;exact Nat.le_refl _
   | succ d ih=>intro i;rw[show i+(d+1)=i+d+1 by omega,cY];exact Nat.le_trans (ih i) (Nat.le_add_right _ _)
  by_cases g:m<=n
  ·refine Nat.le_trans (f m g) ?_;have e:=l (n-m) m
   rwa [show m+(n-m)=n by omega]at e
  ·have e:=o (m-n);rw[show n+(m-n)=m by omega]at e;rw[e];exact f n (Nat.le_refl _)
 exact Nat.le_trans s (r m)
theorem tV(l:List Int)(x:Int):ef (l++ [x])=ef l+x:=by
 induction l with
 | nil=>simp[ef]
 | cons y l ih=>simp only[List.cons_append,ef,ih];omega
theorem qj(l:List Int)(h:∀x∈l,0<=x/\x<=1):∀i,i<=l.length->ef (l.take i)=ee i (fun k=>decide (l.getD k 0≠0)):=by
 intro i
 induction i with
 | zero=>intro _;simp[ef,ee]
 | succ i ih=>
  intro d;have f:=h l[i] (List.getElem_mem (by omega));have e:l.getD i 0=l[i]:=by rw[List.getD_eq_getElem?_getD,List.getElem?_eq_getElem (by omega)];rfl
  have c:l.take (i+1)=l.take i++ [l.getD i 0]:=by rw[List.take_add_one,List.getElem?_eq_getElem (by omega),e];rfl
  rw[c,tV,ih (by omega),cY,e];by_cases b:l[i]=0
  ·simp[b]
  ·have a:l[i]=1:=by omega
   simp[a]
section
variable {n j : Nat} {g g' : Gh} {R R' : aa}
theorem RI.maj(l:g.Ok n)(h:RI g n j R)(hr:R.role=1)(he:bD R.n<=ef R.votes):uQ n (fun k=>decide (g.vote k R.bt=some j))/\g.ldr R.bt=none:=by
 obtain⟨c1,c2,c3⟩:=h.cand hr;have i:=h.nn;have f:=h.ok.n1;have e:=h.ok.n7;have b:uQ n (fun k=>decide (g.vote k R.bt=some j)):=by
  have m:bD R.n=((n / 2+1:Nat):Int):=by unfold bD;rw[if_neg (by omega),i];omega
  have c:=qj R.votes h.ok.vs R.votes.length (Nat.le_refl _);rw[List.take_length]at c;rw[m,c]at he;have o:=uJ (p:=fun k=>decide (R.votes.getD k 0≠0)) (q:=fun k=>decide (g.vote k R.bt=some j)) (n:=n) R.votes.length (fun k _ a=>by simp only[decide_eq_true_eq]at a ⊢;exact c3 k a)
  unfold uQ;omega
 refine⟨b,?_⟩;cases hl:g.ldr R.bt with
 | none=>rfl
 | some d=>exact absurd (by rw[hl,l.ldrOne b hl]) c2
theorem RI.add(r:g.Ok n)(h:RI g n j R)(hr:R.role=2){it:ar}(o:it.1=R.bt)(hib:it.2.length<=50):bA 1 g n j R (R.add it).1:=by
 obtain⟨b,C,a⟩:=h.ln;obtain⟨p,q,G,z,x⟩:=h.lead hr;have m:=h.jn;have c:=h.bt;have l:=pC h.ok it;rcases sg C it with e | e
 ·have he:(R.add it).1={ R with line:=aL (g.fl j++ [it]) b }:=by
   unfold aa.add;rw[a,e]
  rw[he]at l ⊢;rw[c]at p q o;have w:=Gh.append_step r m (it:=it) p q;have v:=w.ext;have B:=Gh.append_ok r m (it:=it) p q o hib;have f:(g.append j it).fl j=g.fl j++ [it]:=gg _ _ _;have F:(g.append j it).gl R.bt=g.fl j++ [it]:=by rw[c];exact ge _ _ _
  have D:(g.append j it).ack j R.bt=(g.fl j).length+1:=by rw[c];exact cA _ _ _ _
  refine⟨g.append j it,w,B,⟨l,h.me,h.nn,c,⟨b,by rw[f,List.length_append];omega,by rw[f]⟩,h.vote,fun i=> ?_,fun _=>⟨?_,?_,?_,fun k d=> ?_,fun k d=> ?_⟩,?_,⟨fun s=> ?_,h.st.2.1,h.st.2.2⟩⟩,fun y A=> .inl A,Nat.le_refl _⟩
  ·have i:R.role=1:=i;omega
  ·show g.ldr R.bt=some j;rw[c];exact p
  ·rw[f,<-F]
  ·rw[f];show(g.fl j++ [it]).length<=(g.append j it).ack j R.bt;rw[D,List.length_append,List.length_singleton];exact Nat.le_refl _
  ·have t:=z k d;have H:=v.ack k R.bt d;show R.mat.getD k 0<=((g.append j it).ack k R.bt:Int);omega
  ·rw[f,List.length_append,List.length_singleton];have t:=x k d;show 1<=R.nxt.getD k 0/\R.nxt.getD k 0<=_;omega
  ·show(g.append j it).Com n R.bt ((g.append j it).fl j) R.commit.toNat;rw[f];exact v.com h.com (Int.le_refl _) (by rw[List.length_append];have:=h.com.1;omega) (iE h.com.1)
  ·have t:=h.st.1 (by rw[a];exact s);show R.state=dn b;rw[t,a];rfl
 ·have he:(R.add it).1=R:=by
   unfold aa.add;rw[a,e,<-a]
  rw[he];exact .still r h rfl
theorem RI.noted(h:RI g n j R)(l:List (List UInt8)):RI g n j { R with news:=l }:=⟨h.ok.nws l,h.me,h.nn,h.bt,h.ln,h.vote,h.cand,h.lead,h.com,h.st⟩
theorem RI.ticked(h:RI g n j R){k:Int}(h0:0<=k)(h1:k<=40):RI g n j { R with ticks:=k }:=⟨h.ok.tick0 h0 h1,h.me,h.nn,h.bt,h.ln,h.vote,h.cand,h.lead,h.com,h.st⟩
theorem RI.lookSend{d:Nat}(b:g.Ok n)(h:RI g n j R)(hr:R.role=2):bA d g n j R (R.look.others aa.send):=by obtain⟨i,f⟩:=h.look b hr;refine(bA.still (d:=0) b i f).more (d2:=0) (fun k _ a e=>e.beat a ?_) (Nat.zero_le _);obtain⟨m,c,he, -⟩:=ch R;rw[he];exact hr
theorem RI.goLead(v:g.Ok n)(h:RI g n j R)(hr:R.role=1)(he:bD R.n<=ef R.votes):bA 1 g n j R R.goLead:=by
 obtain⟨z,r⟩:=h.maj v hr he;obtain⟨c1,c2,c3⟩:=h.cand hr;obtain⟨b,H,q⟩:=h.ln;have m:=h.jn;have a:=h.bt;have o:=h.ok.rb (by omega);have c:R.line.last=(g.fl j).length:=by rw[q];exact aN H
 rw[a]at r z c1 o;have x:=Gh.lead_step v m r;have G:=Gh.lead_ok v m o r z c1;have D:=x.ext;have O:(g.lead j).gl R.bt=g.fl j:=by rw[a];exact ge _ _ _
 have N:(g.lead j).ack j R.bt=(g.fl j).length:=by rw[a];exact cA _ _ _ _
 have M:(g.lead j).ldr R.bt=some j:=by rw[a];exact ge _ _ _
 have J:bA 0 g n j R R.lead0:=by
  refine⟨g.lead j,x,G,⟨ng h.ok (h.ok.rb (by omega)),h.me,h.nn,a,h.ln,h.vote,fun f=> ?_,fun _=>⟨M,O,by show(g.fl j).length<=(g.lead j).ack j R.bt;rw[N];exact Nat.le_refl _,fun k s=> ?_,fun k s=> ?_⟩,D.com h.com (Int.le_refl _) h.com.1 rfl,h.st⟩,fun y C=> .inl C,Nat.le_refl _⟩
  ·have f:(2:Int)=1:=f;omega
  ·show aW.getD k 0<=_;have B:aW.getD k 0=0:=by
    rw[List.getD_eq_getElem?_getD];cases p:aW[k]? with
    | none=>rfl
    | some y=>have i:=List.mem_of_getElem? p;simp[aW]at i;subst i;rfl
   rw[B];exact Int.natCast_nonneg _
  ·show 1<=(List.replicate 7 (R.line.last+1)).getD k 0/\_;have F:=h.ok.n7;have S:=h.nn;have p:(List.replicate 7 (R.line.last+1)).getD k 0=R.line.last+1:=by
    rw[List.getD_eq_getElem?_getD,List.getElem?_replicate,if_pos (by omega)];rfl
   show 1<=(List.replicate 7 (R.line.last+1)).getD k 0/\(List.replicate 7 (R.line.last+1)).getD k 0<=((g.fl j).length:Int)+1;rw[p,c];omega
 refine bA.more (R':=R.lead1) (d1:=1) (d2:=0) ?_ (fun L _ d w=> ?_) (Nat.le_refl _)
 ·refine J.more (d2:=1) (fun L _ d w=> ?_) (Nat.le_refl _);have A:=w.add d rfl (it:=(R.bt,[])) rfl (by simp);unfold aa.lead1;simp only;split
  ·exact A.more (d2:=0) (fun T _ t I=> .still t (I.noted _) rfl) (Nat.le_refl _)
  ·exact A
 ·unfold aa.goLead;refine w.lookSend d ?_;obtain⟨l,P,e⟩:=kn R;rw[e];rfl
theorem RI.count(c:g.Ok n)(h:RI g n j R)(hr:R.role=1){f:Nat}(m:f<n)(hv:g.vote f R.bt=some j):bA 1 g n j R (R.count f):=by
 obtain⟨c1,c2,c3⟩:=h.cand hr;have l:=h.ok.n7;have p:=h.nn;have i:RI g n j { R with votes:=R.votes.set f 1 }:=by
  refine⟨h.ok.voted (by simp[h.ok.v7]) (cF h.ok.vs (by omega)),h.me,h.nn,h.bt,h.ln,h.vote,fun _=>⟨c1,c2,fun k a=> ?_⟩,h.lead,h.com,h.st⟩;have a:(R.votes.set f 1).getD k 0≠0:=a;rw[bi _ _ _ _ (by rw[h.ok.v7];omega)]at a;by_cases e:k=f
  ·subst e;exact⟨m,hv⟩
  ·rw[if_neg e]at a;exact c3 k a
 unfold aa.count;simp only;rw[show((f:Int)).toNat=f by omega];split
 ·rename_i he
  exact(bA.still (R:=R) (d:=0) c i rfl).more (fun q _ b o=>o.goLead b hr he) (Nat.le_refl _)
 ·exact .still c i rfl
end
section
variable {n j : Nat} {g g' : Gh} {R R' : aa}
theorem RI.stand0(q:g.Ok n)(h:RI g n j R)(hb:R.bt<1099511627776):∃g',g.Step g' n j/\g'.Ok n/\RI g' n j R.stand0/\g'.cl j (R.bt+1)=g.fl j/\g'.vote j (R.bt+1)=some j/\g'.fl j=g.fl j/\g'.cnt=g.cnt:=by
 have e:=h.jn;have D:=h.bt;have F:=h.ok.bt0;have f:g.bt j<R.bt+1:=by omega
 have r:=Gh.stand_step (n:=n) q f;have s:=Gh.stand_ok q e f;obtain⟨a,d⟩:∃a,a=g.stand j (R.bt+1):=⟨_,rfl⟩
 have o:a.bt j=R.bt+1:=by rw[d];exact gg _ _ _
 have v:a.cl j (R.bt+1)=g.fl j:=by rw[d];exact cA _ _ _ _
 have m:a.fl j=g.fl j:=by rw[d];rfl
 have M:a.vote j (R.bt+1)=none:=by rw[d];exact q.voten e f
 have L:∀T,a.ldr T=g.ldr T:=fun T=>by rw[d];rfl
 rw[<-d]at r s;have z:a.vote j (a.bt j)=none:=by rw[o];exact M
 have w:=Gh.cast_step (n:=n) z j;have C:=Gh.cast_ok s (c:=j) z e (by rw[o];omega) (Int.le_refl _) (fun P i O J I H G=>by rw[o,v,<-m];exact s.ackAll e J I H G)
 have B:(a.cast j j).vote j (R.bt+1)=some j:=by show eC a.vote j (a.bt j) (some j) j (R.bt+1)=_;rw[o];exact cA _ _ _ _
 have x:=(r.trans w).ext;refine⟨a.cast j j,r.trans w,C,⟨oQ h.ok hb,h.me,h.nn,o.symm,?_, .inr ⟨j,h.me,B⟩,fun _=>⟨?_,fun p=> ?_,fun k t=> ?_⟩,fun A=> ?_,?_,h.st.mono x.sn⟩,v,B,m,by rw[show(a.cast j j).cnt=a.cnt from rfl,d];rfl⟩
 ·show ∃b,b<=(a.fl j).length/\R.line=aL (a.fl j) b;rw[m];exact h.ln
 ·show a.cl j (R.bt+1)=a.fl j;rw[v,m]
 ·have p:a.ldr (R.bt+1)=some j:=p;rw[L]at p;have N:=(q.ldrBt _ _ p).1;omega
 ·exfalso;have t:aW.getD k 0≠0:=t;apply t;rw[List.getD_eq_getElem?_getD];cases hq:aW[k]? with
  | none=>rfl
  | some y=>have l:=List.mem_of_getElem? hq;simp[aW]at l;subst l;rfl
 ·have A:(1:Int)=2:=A;omega
 ·show(a.cast j j).Com n (R.bt+1) (a.fl j) R.commit.toNat;rw[m];exact x.com h.com (by omega) h.com.1 rfl
theorem RI.stand(B:g.Ok n)(h:RI g n j R):bA 1 g n j R R.stand:=by
 unfold aa.stand;split
 ·exact .still B (h.ticked (by omega) (by omega)) rfl
 ·rename_i V
  obtain⟨q,F,H,A,D,Y,X,U⟩:=h.stand0 B (by omega);obtain⟨b,p,m⟩:=h.ln;have d:R.line.last=(g.fl j).length:=by rw[m];exact aN p
  have k:=h.ok.line;have x:=bP k;have v:=sU k R.line.last;have t:(bk R.line R.line.last).1=dm (g.fl j) (g.fl j).length:=by rw[d,m];rw[m]at k;rw[eT k p,if_pos ⟨p,Nat.le_refl _⟩]
  have L:=h.ok.n1;have M:=h.ok.bt0;have J:=h.nn;have w:=h.me;have r:=h.jn;have C:R.bt+1=q.bt j:=A.bt;obtain⟨o,T,O⟩:=mY (R:=R.stand0) (f:=fun S s=>S.post s ⟨1,0,R.line.last,(bk R.line R.line.last).1,0,false,[],[]⟩) (P:=fun y=>Lt q n j y.1 y.2) (by show 0<=R.n;omega) (fun o i a b c=>by
   have b:i<R.n:=b;have c:i≠R.me:=c;refine⟨_,rfl,⟨gm (by simp) ⟨by show 0<=R.bt+1;omega,by show R.bt+1<=_;omega⟩ x v (by simp) (by simp) (by simp) (by simp) rfl,a,by show i<n;omega,by show i≠j;omega,r,by show R.bt+1<=q.bt j;omega,fun _=>⟨by show 1<=R.bt+1;omega,?_,?_⟩,fun e=>by simp[aa.post]at e,fun e=>by simp at e,fun e=>by simp at e,fun e=>by simp at e⟩⟩
   ·show R.line.last=(q.cl j (R.bt+1)).length;rw[D,d]
   ·show(bk R.line R.line.last).1=dm (q.cl j (R.bt+1)) (q.cl j (R.bt+1)).length;rw[D,t])
  rw[T];refine bA.more (R':={ R.stand0 with out:=R.stand0.out++o }) (d1:=0) (d2:=1) ⟨q,F,H,A.outs _,fun y I=> ?_,Nat.le_of_eq U⟩ (fun W _ G z=> ?_) (Nat.le_refl _)
  ·rcases List.mem_append.1 I with l | l
   ·exact .inl l
   ·exact .inr (O y l)
  ·rw[w];refine z.count G rfl r ?_;rcases z.vote with⟨l, -⟩ | ⟨c,l,N⟩
   ·have l:R.me= -1:=l;omega
   ·have l:R.me=c:=l;have:c=j:=by omega
    subst this;exact N
theorem RI.tick(c:g.Ok n)(h:RI g n j R):bA 1 g n j R R.tick:=by
 have p:=h.ok.tk0;have o:=h.ok.tk1;unfold aa.tick;simp only;split
 ·rename_i m
  exact(bA.still (R:=R) (d:=0) c (h.ticked (k:=0) (by omega) (by omega)) rfl).more (d2:=0) (fun q _ b l=>l.beat b m.1) (Nat.zero_le _)
 ·split
  ·have e:({ R with ticks:=R.ticks+1 }:aa).stand=R.stand:=by
    unfold aa.stand;simp only;rfl
   rw[e];exact h.stand c
  ·rename_i i f
   refine .still c ⟨?_,h.me,h.nn,h.bt,h.ln,h.vote,h.cand,h.lead,h.com,h.st⟩ rfl;have a:=td h.ok;unfold aa.tick at a;simp only at a;rw[if_neg i,if_neg f]at a;exact a
theorem RI.propose(d:g.Ok n)(h:RI g n j R){b:List UInt8}(f:b.length<=50):bA 1 g n j R (R.propose b).1:=by
 unfold aa.propose;split
 ·exact .still d h rfl
 ·rename_i k
  split
  ·exact .still d h rfl
  ·split
   ·exact .still d h rfl
   ·simp only;split
    ·exact .still d h rfl
    ·have c:R.role=2:=by omega
     refine bA.more (R':=(R.add (R.bt,b)).1.noteItems (R.add (R.bt,b)).2) (d1:=1) (d2:=0) ?_ (fun i _ a e=> ?_) (Nat.le_refl _)
     ·exact(h.add d c rfl f).more (d2:=0) (fun i _ a e=> .still a (e.noted _) rfl) (Nat.le_refl _)
     ·exact e.lookSend a c
theorem RI.compact(h:RI g n j R)(hj:R.jumped=false){s:List UInt8}(hs:s=dn R.applied.toNat):RI g n j (R.compact s).1:=by
 have c:=nh h.ok s;unfold aa.compact at c ⊢;split
 ·exact h
 ·rename_i v
  rw[if_neg v]at c;obtain⟨b,l,d⟩:=h.ln;have f:=h.ok.line;have t:=h.ok.ap0;have r:=h.ok.ap1;have q:=h.ok.cm;have p:=f.b0;have i:R.line.last=(g.fl j).length:=by rw[d];exact aN l
  have k:R.line.base=b:=by rw[d];rfl
  obtain⟨a,m⟩:∃a:Nat,R.applied=a:=⟨R.applied.toNat,by omega⟩
  rw[d]at f;have o:R.line.drop R.applied=(aL (g.fl j) a,true):=by rw[d,m];exact lA f l (by omega) (by omega)
  have e:({ R with line:=(R.line.drop R.applied).1,state:=s }:aa)={ R with line:=aL (g.fl j) a,state:=s }:=by rw[o]
  show RI g n j ({ R with line:=(R.line.drop R.applied).1,state:=s }:aa);have c:({ R with line:=(R.line.drop R.applied).1,state:=s }:aa).Ok:=c;rw[e]at c ⊢;refine⟨c,h.me,h.nn,h.bt,⟨a,by omega,rfl⟩,h.vote,h.cand,h.lead,h.com,⟨fun _=> ?_,h.st.2.1,fun e=>by rw[hj]at e;cases e⟩⟩;show s=dn ((a:Int)).toNat;rw[hs,m]
theorem tp{R:aa}(h:R.Ok):R.bare.base.Ok:=by have b:=nf (me:=R.me) (n:=R.n) h.n1 h.n7 h.me0 h.men;have c:R.line.last=R.line.base+(R.line.l.length:Int):=rfl;exact { b with bt0:=h.bt0,bt1:=h.bt1,bf0:=h.bf0,bf1:=h.bf1,line:=h.line,ap0:=Int.le_refl _,ap1:=Int.le_refl _,cm:=by show R.line.base<=R.line.last;omega,rb:=fun a=>absurd rfl a,st:=h.st }
theorem RI.load(h:RI g n j R):RI g n j R.bare.base:=by
 refine⟨tp h.ok,h.me,h.nn,h.bt,h.ln,h.vote,fun a=> ?_,fun a=> ?_,h.com.le ?_,⟨h.st.1,by have c:=h.st.2.1;have b:=h.ok.ap0;show R.line.base<=_;omega,fun e=>by cases e⟩⟩
 ·have a:(0:Int)=1:=a;omega
 ·have a:(0:Int)=2:=a;omega
 ·show R.line.base.toNat<=R.commit.toNat;have c:=h.ok.ap0;have b:=h.ok.ap1;omega
end
section
variable {n j f : Nat} {g g' : Gh} {R R' : aa} {x : ax}
theorem RI.stepUp{d:Nat}(f:g.Ok n)(h:RI g n j R){t:Int}(l:t<=1099511627776):bA d g n j R (R.stepUp t)/\t<=(R.stepUp t).bt:=by
 have b:=gp h.ok l;unfold aa.stepUp at b ⊢;split
 ·rename_i e
  rw[if_pos e]at b;have m:=h.bt;have a:g.bt j<t:=by omega
  have i:=Gh.term_step (n:=n) f a;refine⟨⟨g.term j t,i,Gh.term_ok f a,⟨b,h.me,h.nn,?_,h.ln, .inl ⟨rfl,?_⟩,fun c=> ?_,fun c=> ?_,?_,h.st⟩,fun y k=> .inl k,Nat.le_add_right _ _⟩,Int.le_refl _⟩
  ·exact(gg g.bt j t).symm
  ·exact f.voten h.jn a
  ·have c:(0:Int)=1:=c;omega
  ·have c:(0:Int)=2:=c;omega
  ·exact i.ext.com h.com (by show R.bt<=t;omega) h.com.1 rfl
 ·rename_i e
  exact⟨.still f h rfl,by omega⟩
theorem RI.posted{d:Nat}(e:g.Ok n)(h:RI g n j R){who:Int}{x:ax}(c:Lt g n j who { x with t:=R.bt }):bA d g n j R (R.post who x):=
 .posts e (h.outs _) fun y b=>by
  rcases List.mem_append.1 b with a | a
  ·exact .inl a
  ·rw[List.mem_singleton]at a;subst a;exact .inr c
theorem RI.no(h:RI g n j R)(hf:f<n)(hfj:f≠j){k a o:Int}(b:k=2\/k=4)(ha:0<=a/\a<=1099511627776)(ho:0<=o/\o<=1099511627776)(hz:k=2->a=0/\o=0):Lt g n j f { (⟨k,0,a,0,o,false,[],[]⟩:ax) with t:=R.bt }:=by
 have c:=h.bt;refine⟨gm ⟨by show 1<=k;omega,by show k<=5;omega⟩ ⟨h.ok.bt0,h.ok.bt1⟩ ha (by simp) ho (by simp) (by simp) (by simp) ?_,by omega,by omega,by omega,h.jn,by show R.bt<=_;omega,fun e=> ?_,fun _ e=>(by cases e),fun e=> ?_,fun _ e=>(by cases e),fun e=> ?_⟩
 ·rcases b with rfl | rfl
  ·obtain⟨i,d⟩:=hz rfl;subst i d;rfl
  ·rfl
 ·have e:k=1:=e;omega
 ·have e:k=3:=e;omega
 ·have e:k=5:=e;omega
theorem Gh.Ok.newer(d:g.Ok n)(hj:j<n)(hf:f<n){T:Int}{C:List ar}(r:g.cl f T=C)(han:ed (C.length:Int) (dm C C.length) (((g.fl j).length:Nat):Int) (dm (g.fl j) (g.fl j).length)=true){T0:Int}{i:Nat}(y:T0<T)(hl:g.ldr T0≠none)(hi:1<=i)(ha:i<=g.ack j T0)(ht:dm (g.gl T0) i=T0):g.Has n C T0 i:=by
 have o:=(d.ackle j T0 hj (by omega)).2.2;rcases d.ackAll hj hl hi ha ht with⟨q,B⟩ | q
 ·have A:dm (g.fl j) i=T0:=(dN B (Nat.le_refl _)).trans ht;have z:=d.grows (T:=g.bt j) (fun i a b=>d.fline j hj i a b) hi q (Nat.le_refl _);rw[A]at z;obtain⟨c,w⟩:∃c,g.ldr T0=some c:=by
   cases p:g.ldr T0 with
   | none=>exact absurd p hl
   | some c=>exact⟨c,rfl⟩
  have x:=(d.ldrBt T0 c w).2.1;simp only[ed,Bool.or_eq_true,Bool.and_eq_true,decide_eq_true_eq]at han;have k:1<=C.length:=by
   by_cases e:C.length=0
   ·rw[e]at han;have G:dm C 0=0:=rfl;rw[G]at han;omega
   ·omega
  have v:=d.cline f T hf C.length k (by rw[r];exact Nat.le_refl _);rw[r]at v;obtain⟨M,L,H,J,l⟩:=v;by_cases e:dm C C.length=T0
  ·rw[e]at l;refine .inl ⟨by omega,cD l (by omega)⟩
  ·have m:T0<dm C C.length:=by omega
   rcases d.elect _ T0 i H hl m hi (Nat.le_trans ha o) ht with⟨t,s⟩ | t
   ·have h:i<=C.length:=by
     by_cases p:i<=C.length
     ·exact p
     ·exfalso;have I:dm (g.gl (dm C C.length)) C.length=dm C C.length:=(dN l (Nat.le_refl _)).symm;have F:dm (g.gl (dm C C.length)) C.length=dm (g.gl T0) C.length:=dN s (by omega);have D:=(d.gline T0 hl C.length k (by omega)).2.1;omega
    exact .inl ⟨h,(cD l h).trans s⟩
   ·exact .inr t
 ·exact .inr q
theorem RI.asked{d:Nat}(M:g.Ok n)(h:RI g n j R)(hl:Lt g n f j x)(hfj:f≠j)(hk:x.k=1)(hup:x.t<=R.bt):bA d g n j R (R.asked f x):=by
 have T:=hl.jn;have H:=h.jn;have r:=h.bt;have q:=h.ok;obtain⟨k1,k2,k3⟩:=hl.k1 hk;obtain⟨b,V,A⟩:=h.ln;have m:R.line.last=(g.fl j).length:=by rw[A];exact aN V
 have I:=q.line;have P:(bk R.line R.line.last).1=dm (g.fl j) (g.fl j).length:=by rw[m,A];rw[A]at I;rw[eT I V,if_pos ⟨V,Nat.le_refl _⟩]
 obtain⟨w,han⟩:∃w,ed x.a x.u R.line.last (bk R.line R.line.last).1=w:=⟨_,rfl⟩
 cases hyes:bJ R.bt R.bf f x.t w with
 | false=>
  have Y:fY R.bt R.bf f x.t w=R.bt:=by unfold fY;rw[hyes];rfl
  have X:cW R.bt R.bf f x.t w=R.bf:=by unfold cW;rw[hyes];rfl
  have z:R.asked f x=R.post f ⟨2,0,0,0,0,false,[],[]⟩:=by unfold aa.asked;simp only;rw[han,hyes,Y,X,if_neg (by simp),if_neg (by simp)]
  rw[z];exact h.posted M (h.no T hfj (.inl rfl) (by simp) (by simp) (fun _=>⟨rfl,rfl⟩))
 | true=>
  have e0:x.t=R.bt:=kT hyes;have Y:fY R.bt R.bf f x.t w=R.bt:=by rw[gw]
  have X:cW R.bt R.bf f x.t w=f:=by unfold cW;rw[hyes];rfl
  have v:w=true/\(R.bf=f\/R.bf= -1):=by simp[bJ]at hyes;exact⟨hyes.1.1.2,hyes.2⟩
  have z:R.asked f x=(if ¬(f:Int)=R.bf then({ R with ticks:=0,bt:=R.bt,bf:=(f:Int) }:aa).noteBallot else { R with ticks:=0 }).post f ⟨2,0,0,0,0,true,[],[]⟩:=by unfold aa.asked;simp only;rw[han,hyes,Y,X];simp only[if_true,ne_eq,not_true_eq_false,false_or]
  rw[z];have s:∀ {C:Gh} {O:aa},C.Ok n->RI C n j O->O.bt=R.bt->C.vote j R.bt=some f->bA 0 C n j O (O.post f ⟨2,0,0,0,0,true,[],[]⟩):=fun o p U L=>by have J:=p.bt;refine p.posted o ⟨gm (by simp) ⟨p.ok.bt0,p.ok.bt1⟩ (by simp) (by simp) (by simp) (by simp) (by simp) (by simp) rfl,by omega,by omega,by omega,H,by show _<=_;exact Int.le_of_eq J,fun e=>by simp at e,fun _ _=> ?_,fun e=>by simp at e,fun e=>by simp at e,fun e=>by simp at e⟩;show _=some ((f:Int)).toNat;rw[show((f:Int)).toNat=f by omega,<-L,<-U]
  by_cases B:(f:Int)=R.bf
  ·rw[if_neg (by simpa using B)];refine bA.more (R':={ R with ticks:=0 }) (d1:=0) (.still M (h.ticked (by omega) (by omega)) rfl) (fun C s1 o p=>s o p rfl ?_) (Nat.zero_le _);rcases p.vote with⟨l, -⟩ | ⟨c,l,N⟩
   ·have l:R.bf= -1:=l;omega
   ·have l:R.bf=c:=l;have:c=f:=by omega
    subst this;exact N
  ·have hbf1:R.bf= -1:=by
    rcases v.2 with W | W
    ·exact absurd W.symm B
    ·exact W
   rw[if_pos B];have L:g.vote j (g.bt j)=none:=by
    rw[<-r];rcases h.vote with⟨-,l⟩ | ⟨c,l,N⟩
    ·exact l
    ·omega
   have hs:=Gh.cast_step (n:=n) L f;have Z:=hs.ext;have S:=Gh.cast_ok M (c:=f) L T (by omega) (by have:=hl.t;omega) (fun T0 i c1 c2 c3 c4 c5=>by rw[<-r,<-e0]at c1 ⊢;refine M.newer H T rfl ?_ c1 c2 c3 c4 c5;rw[<-k2,<-k3,<-m,<-P,han];exact v.1)
   have e6:(g.cast j f).vote j R.bt=some f:=by rw[r];exact cA _ _ _ _
   have D:(f:Int)<=6:=by have p:=q.n7;have l:=h.nn;omega
   have G:({ R with ticks:=0,bt:=R.bt,bf:=(f:Int) }:aa).Ok:=(q.tick0 (k:=0) (by omega) (by omega)).ballot (t:=R.bt) (f:=(f:Int)) (Int.le_refl _) q.bt1 (by omega) D;refine bA.more (R':=({ R with ticks:=0,bt:=R.bt,bf:=(f:Int) }:aa).noteBallot) (d1:=0) ⟨g.cast j f,hs,S,⟨eO G,h.me,h.nn,r,h.ln, .inr ⟨f,rfl,e6⟩,fun F=> ?_,fun F=> ?_,Z.com h.com (Int.le_refl _) h.com.1 rfl,h.st⟩,fun y hy=> .inl hy,Nat.le_refl _⟩ (fun C s1 o p=>s o p rfl ?_) (Nat.zero_le _)
   ·have F:R.role=1:=F;obtain⟨c1,c2,c3⟩:=h.cand F;exact⟨c1,c2,fun k hk=>⟨(c3 k hk).1,Z.vote k _ _ (c3 k hk).1 (c3 k hk).2⟩⟩
   ·exact h.lead F
   ·rcases p.vote with⟨l, -⟩ | ⟨c,l,N⟩
    ·have l:(f:Int)= -1:=l;omega
    ·have l:(f:Int)=c:=l;have:c=f:=by omega
     subst this;exact N
theorem RI.said(a:g.Ok n)(h:RI g n j R)(hl:Lt g n f j x)(hk:x.k=2):bA 1 g n j R (R.said f x):=by
 unfold aa.said;split
 ·rename_i i
  obtain⟨e,d,c⟩:=i;refine h.count a e hl.jn ?_;have b:=hl.k2 hk c;rw[d,show((j:Int)).toNat=j by omega]at b;exact b
 ·exact .still a h rfl
end
section
variable {n j f : Nat} {g g' : Gh} {R R' : aa} {x : ax}
theorem RI.yes(h:RI g n j R)(hf:f<n)(hfj:f≠j){a:Nat}{o:Int}(c:(a:Int)<=1099511627776)(ho:0<=o/\o<=1099511627776)(hk:a<=g.ack j R.bt):Lt g n j f { (⟨4,0,(a:Int),0,o,true,[],[]⟩:ax) with t:=R.bt }:=by have b:=h.bt;exact⟨gm (by simp) ⟨h.ok.bt0,h.ok.bt1⟩ ⟨by show(0:Int)<=(a:Int);omega,c⟩ (by simp) ho (by simp) (by simp) (by simp) rfl,by omega,by omega,by omega,h.jn,by show R.bt<=_;omega,fun e=>by simp at e,fun e=>by simp at e,fun e=>by simp at e,fun _ _=>⟨a,rfl,hk⟩,fun e=>by simp at e⟩
theorem RI.follower(h:RI g n j R)(hok:({ R with role:=0,lead:=(f:Int),ticks:=0 }:aa).Ok):RI g n j { R with role:=0,lead:=(f:Int),ticks:=0 }:=by
 refine⟨hok,h.me,h.nn,h.bt,h.ln,h.vote,fun a=> ?_,fun a=> ?_,h.com,h.st⟩
 ·have a:(0:Int)=1:=a;omega
 ·have a:(0:Int)=2:=a;omega
theorem bA.go{a:aa}{d:Nat}(s:g.Step g' n j)(hc:g'.cnt=g.cnt)(ho:R'.out=R.out)(h:bA d g' n j R' a):bA d g n j R a:=by obtain⟨k,f,e,c,b,l⟩:=h;exact⟨k,s.trans f,e,c,fun y i=>(b y i).imp (fun h=>by rw[<-ho];exact h) id,by omega⟩
theorem RI.followed(s:g.Ok n)(h:RI g n j R)(hr0:R.role=0){F:List ar}{m b:Nat}{cm f:Int}{st:List UInt8}{i:Bool}{l:List (List UInt8)}(p:g.ldr R.bt≠none)(hm:m<=(g.gl R.bt).length)
 (q:(F=g.fl j/\(g.fl j).take m=(g.gl R.bt).take m/\m<=(g.fl j).length)\/(F=(g.gl R.bt).take m/\∃d,1<=d/\d<=m/\¬(d<=(g.fl j).length/\(g.fl j).take d=(g.gl R.bt).take d)))
 (t:b<=F.length)(hok:({ R with line:=aL F b,commit:=cm,applied:=f,state:=st,jumped:=i,news:=l }:aa).Ok)(hcom:g.Com n R.bt F cm.toNat)(hst:1<=b->st=dn b)(hap:f<=g.sn)(hjp:i=true->st=dn f.toNat):
  ∃g',g.Step g' n j/\g'.Ok n/\RI g' n j { R with line:=aL F b,commit:=cm,applied:=f,state:=st,jumped:=i,news:=l }/\m<=g'.ack j R.bt/\g'.cnt=g.cnt:=by
 have a:=h.bt;rw[a]at p hm q;have o:g.Step (g.follow j F m) n j:=Gh.follow_step F m;have r:=Gh.follow_ok s h.jn p hm q;have k:(g.follow j F m).fl j=F:=gg _ _ _;have v:(g.follow j F m).ack j R.bt=max (g.ack j (g.bt j)) m:=by rw[a];exact cA _ _ _ _
 refine⟨_,o,r,⟨hok,h.me,h.nn,a,⟨b,by rw[k];exact t,by rw[k]⟩,h.vote,fun c=> ?_,fun c=> ?_,?_,⟨fun e=> ?_,hap,hjp⟩⟩,by rw[v];omega,rfl⟩
 ·have c:R.role=1:=c;omega
 ·have c:R.role=2:=c;omega
 ·rw[k];exact o.ext.com hcom (Int.le_refl _) hcom.1 rfl
 ·have e:(1:Int)<=(b:Int):=e;show st=dn ((b:Int)).toNat;rw[hst (by omega)]
  congr 1
theorem RI.sent1{d:Nat}(C:g.Ok n)(h:RI g n j R)(hr0:R.role=0)(hl:Lt g n f j x)(hfj:f≠j)(hk:x.k=3)(hT:x.t=R.bt)(hok:(R.sent1 f x).Ok):bA d g n j R (R.sent1 f x):=by
 obtain⟨l1,a,o,l2,l3,S,l5,l6,l7⟩:=hl.k3 hk;rw[hT]at l1 S l5 l6 l7;have l:=gC l1;have hf:=hl.jn;have hbt:=h.bt;have O:=h.ok.line;have hcm0:=h.ok.ap0;have hcm1:=h.ok.ap1;have hcm2:=h.ok.cm;have hb00:=O.b0;obtain⟨b,hb,v⟩:=h.ln;have y:R.line.base=b:=by rw[v];rfl
 have hlast:R.line.last=(g.fl j).length:=by rw[v];exact aN hb
 have B:=O;rw[v]at B;obtain⟨-,hxt,r,hxu,hxo,hxi, -⟩:=aH hl.right;obtain⟨ca1,V⟩:=h.com.agree C l;obtain⟨z,hcm⟩:∃z:Nat,R.commit=z:=⟨R.commit.toNat,by omega⟩
 have D:R.commit.toNat=z:=by omega
 rw[D]at ca1 V;have N:∀i,1<=i->i<=(g.fl j).length->i<=(g.gl R.bt).length->dm (g.fl j) i=dm (g.gl R.bt) i->(g.fl j).take i=(g.gl R.bt).take i:=fun i I H Y X=>Gh.same (C.fline j h.jn i I H) (C.gline _ l i I Y) X
 obtain⟨len,A⟩:∃len,x.its.length=len:=⟨_,rfl⟩
 rw[A]at S l6;have w:=lz (G:=g.gl R.bt) B hb A S l6 ⟨cD V (by omega),by omega⟩ N;rw[<-l5,<-l2,<-v]at w;unfold aa.sent1 at hok ⊢;simp only at hok ⊢;have q:∀ {F:List ar},z<=F.length->F.take z=(g.fl j).take z->a+len<=F.length->F.take (a+len)=(g.gl R.bt).take (a+len)->g.Com n R.bt F (max R.commit (min x.o (x.a+x.its.length))).toNat:=fun {F} I H Y X=>by
  obtain⟨M,hM⟩:∃M:Nat,M=min o (a+len):=⟨_,rfl⟩
  have e:(max R.commit (min x.o (x.a+x.its.length))).toNat=max z M:=by omega
  rw[e];by_cases h5:M<=z
  ·rw[Nat.max_eq_left h5];have W:=h.com;rw[D]at W;exact(Gh.Ext.refl g n).com W (Int.le_refl _) I H
  ·rw[Nat.max_eq_right (by omega)];exact l7.com C l (by omega) (cD X (by omega)) (by omega)
 rcases w with e | ⟨e,I,H⟩ | ⟨J,e,I,H,Y,X,h5,W,h7⟩
 ·rw[e]at hok ⊢;simp only at hok ⊢;rw[if_neg (by simp)];simp only[if_true];exact h.posted C (h.no hf hfj (.inr rfl) ⟨by omega,by omega⟩ ⟨r.1,r.2⟩ (fun e=>by omega))
 ·rw[e]at hok ⊢;simp only at hok ⊢;rw[if_neg (by simp),if_neg (by simp),if_neg (by simp)]at hok ⊢;have s:=hok.out R.out;have c:(({ R with commit:=max R.commit (min x.o (x.a+x.its.length)) }:aa))={ R with line:=aL (g.fl j) b,commit:=max R.commit (min x.o (x.a+x.its.length)),applied:=R.applied,state:=R.state,jumped:=R.jumped,news:=R.news }:=by rw[<-v]
  have p:({ R with line:=aL (g.fl j) b,commit:=max R.commit (min x.o (x.a+x.its.length)),applied:=R.applied,state:=R.state,jumped:=R.jumped,news:=R.news }:aa).Ok:=by rw[<-c];exact s
  obtain⟨g1,Z,o1,L,k1,k0⟩:=h.followed C hr0 (F:=g.fl j) (m:=a+len) l S (.inl ⟨rfl,H,I⟩) hb p (q (by omega) rfl I H) (fun hb1=>by have U:=h.st.1 (by omega);rw[U,y];congr 1) h.st.2.1 h.st.2.2;rw[<-c]at L;refine bA.go (R':=({ R with commit:=max R.commit (min x.o (x.a+x.its.length)) }:aa)) Z k0 rfl (L.posted o1 ?_);have T:=bP O;have hy:=L.yes (o:=x.a) hf hfj (a:=a+len) (by omega) ⟨r.1,r.2⟩ k1;have e9:x.a+(x.its.length:Int)=((a+len:Nat):Int):=by omega
  rw[e9];exact hy
 ·rw[e]at hok ⊢;simp only at hok ⊢;by_cases hJ:0<(J:Int)/\(J:Int)<=R.commit
  ·rw[if_pos ⟨trivial,hJ⟩]at hok ⊢;exact .still C h rfl
  ·rw[if_neg (fun U=>hJ U.2),if_neg (by simp),if_pos (by omega)]at hok ⊢;have hJc:z<J:=by omega
   have hFl:(((g.gl R.bt).take (a+len))).length=a+len:=by rw[List.length_take];omega
   obtain⟨P,hnw⟩:∃P,P=(({ R with line:=aL ((g.gl R.bt).take (a+len)) b }:aa).noteItems J).news:=⟨_,rfl⟩
   have c:({ ({ R with line:=aL ((g.gl R.bt).take (a+len)) b }:aa).noteItems J with commit:=max R.commit (min x.o (x.a+x.its.length)) }:aa)={ R with line:=aL ((g.gl R.bt).take (a+len)) b,commit:=max R.commit (min x.o (x.a+x.its.length)),applied:=R.applied,state:=R.state,jumped:=R.jumped,news:=P }:=by rw[hnw];rfl
   have s:=hok.out R.out;have p:({ R with line:=aL ((g.gl R.bt).take (a+len)) b,commit:=max R.commit (min x.o (x.a+x.its.length)),applied:=R.applied,state:=R.state,jumped:=R.jumped,news:=P }:aa).Ok:=by rw[<-c];exact s
   obtain⟨g1,Z,o1,L,k1,k0⟩:=h.followed C hr0 (F:=(g.gl R.bt).take (a+len)) (m:=a+len) l S (.inr ⟨rfl,J,H,Y,h5⟩) (by omega) p (q (by omega) (by rw[List.take_take,Nat.min_eq_left (by omega)];exact(cD W (by omega)).symm) (by omega) (by rw[List.take_take,Nat.min_self])) (fun hb1=>by have U:=h.st.1 (by omega);rw[U,y];congr 1) h.st.2.1 h.st.2.2;rw[<-c]at L;refine bA.go (R':=({ ({ R with line:=aL ((g.gl R.bt).take (a+len)) b }:aa).noteItems J with commit:=max R.commit (min x.o (x.a+x.its.length)) }:aa)) Z k0 rfl (L.posted o1 ?_);have T:=bP p.line;rw[show({ R with line:=aL ((g.gl R.bt).take (a+len)) b,commit:=max R.commit (min x.o (x.a+x.its.length)),applied:=R.applied,state:=R.state,jumped:=R.jumped,news:=P }:aa).line=aL ((g.gl R.bt).take (a+len)) b from rfl,aN (by omega),hFl]at T;have hy:=L.yes (o:=x.a) hf hfj (a:=a+len) (by omega) ⟨r.1,r.2⟩ k1;have e9:x.a+(x.its.length:Int)=((a+len:Nat):Int):=by omega
   rw[e9];exact hy
end
section
variable {n j f : Nat} {g g' : Gh} {R R' : aa} {x : ax}
theorem jK(R:aa)(f:Int)(x:ax):(x.t<R.bt/\R.follows f x=(R.post f ⟨4,0,0,0,x.a,false,[],[]⟩,false))\/(¬x.t<R.bt/\R.role=2/\R.follows f x=(R,false))\/(¬x.t<R.bt/\R.role≠2/\R.follows f x=({ R with role:=0,lead:=f,ticks:=0 },true)):=by
 unfold aa.follows;by_cases b:x.t<R.bt
 ·exact .inl ⟨b,by rw[if_pos b]⟩
 ·by_cases c:R.role=2
  ·exact .inr (.inl ⟨b,c,by rw[if_neg b,if_pos c]⟩)
  ·exact .inr (.inr ⟨b,c,by rw[if_neg b,if_neg c]⟩)
theorem RI.sent{d:Nat}(i:g.Ok n)(h:RI g n j R)(hl:Lt g n f j x)(hfj:f≠j)(hk:x.k=3)(hup:x.t<=R.bt):bA d g n j R (R.sent f x):=by
 have a:=te h.ok (f:Int) x;have b:=dw h.ok (f:Int) x;obtain⟨-,o,c, -⟩:=aH hl.right;unfold aa.sent at a ⊢;rcases jK R f x with⟨l,e⟩ | ⟨l,p,e⟩ | ⟨l,p,e⟩
 ·rw[e]at a ⊢;simp only[Bool.false_eq_true,if_false]at a ⊢;exact h.posted i (h.no hl.jn hfj (.inr rfl) (by simp) c (fun e=>by omega))
 ·rw[e];simp only[Bool.false_eq_true,if_false];exact .still i h rfl
 ·rw[e]at a b ⊢;simp only[if_true]at a ⊢;have m:=h.follower (f:=f) b;exact bA.go (R':={ R with role:=0,lead:=(f:Int),ticks:=0 }) (.refl g n j) rfl rfl (m.sent1 i rfl hl hfj hk (by show x.t=R.bt;omega) a)
theorem RI.given1{d:Nat}(C:g.Ok n)(h:RI g n j R)(hr0:R.role=0)(hl:Lt g n f j x)(hfj:f≠j)(hk:x.k=5)(hT:x.t=R.bt)(hok:(R.given1 f x).Ok):bA d g n j R (R.given1 f x):=by
 obtain⟨l1,a,v,M,U,D,l6,l7,l8⟩:=hl.k5 hk;rw[hT]at l1 U D l6;have c:=gC l1;have hf:=hl.jn;have hbt:=h.bt;have y:=h.ok.line;have hcm0:=h.ok.ap0;have hcm1:=h.ok.ap1;have hcm2:=h.ok.cm;have hb00:=y.b0;obtain⟨b,P,l⟩:=h.ln;have A:R.line.base=b:=by rw[l];rfl
 have X:R.line.last=(g.fl j).length:=by rw[l];exact aN P
 have hlb:=bP y;obtain⟨-,hxt,G,hxu,hxo,hxi, -⟩:=aH hl.right;obtain⟨L,J⟩:=h.com.agree C c;obtain⟨I,Z⟩:∃I:Nat,R.commit=I:=⟨R.commit.toNat,by omega⟩
 have H:R.commit.toNat=I:=by omega
 rw[H]at L J;unfold aa.given1 at hok ⊢;split
 ·rename_i w
  rw[if_pos w]at hok;have s:R={ R with line:=aL (g.fl j) b,commit:=R.commit,applied:=R.applied,state:=R.state,jumped:=R.jumped,news:=R.news }:=by rw[<-l]
  have p:({ R with line:=aL (g.fl j) b,commit:=R.commit,applied:=R.applied,state:=R.state,jumped:=R.jumped,news:=R.news }:aa).Ok:=by rw[<-s];exact h.ok
  obtain⟨g1,S,T,B,V,W⟩:=h.followed C hr0 (F:=g.fl j) (m:=I) c L (.inl ⟨rfl,J,by omega⟩) P p h.com (fun hb1=>by have r:=h.st.1 (by omega);rw[r,A];congr 1) h.st.2.1 h.st.2.2;rw[<-s]at B;refine bA.go (R':=R) S W rfl (B.posted T ?_);have N:=B.yes (o:=x.a) hf hfj (a:=I) (by omega) G V;rw[Z];exact N
 ·rename_i w
  rw[if_neg w]at hok;have q:=y;rw[l]at q;have i:=eT q P a;rw[<-l,<-v]at i;have z:∃F,R.giveLine x=aL F a/\a<=F.length/\F.take a=(g.gl R.bt).take a/\((F=g.fl j/\(g.fl j).take a=(g.gl R.bt).take a/\a<=(g.fl j).length)\/(F=(g.gl R.bt).take a/\∃d,1<=d/\d<=a/\¬(d<=(g.fl j).length/\(g.fl j).take d=(g.gl R.bt).take d))):=by
   unfold aa.giveLine;by_cases e:b<=a/\a<=(g.fl j).length
   ·rw[if_pos e]at i;by_cases O:dm (g.fl j) a=x.u
    ·rw[i,if_pos ⟨rfl,O⟩];have h8:(g.fl j).take a=(g.gl R.bt).take a:=Gh.same (C.fline j h.jn a M e.2) (C.gline _ c a M U) (by rw[O,D]);refine⟨g.fl j,?_,e.2,h8, .inl ⟨rfl,h8,e.2⟩⟩;rw[l,v,lA q P e.1 e.2]
    ·rw[i,if_neg (fun r=>O r.2)];refine⟨(g.gl R.bt).take a,?_,by rw[List.length_take];omega,by rw[List.take_take,Nat.min_self], .inr ⟨rfl,a,M,Nat.le_refl _,fun r=>O ?_⟩⟩
     ·unfold aL;rw[iD (Nat.le_refl _),<-D,v,List.drop_of_length_le (by rw[List.length_take];omega)]
     ·rw[D];exact dN r.2 (Nat.le_refl _)
   ·rw[if_neg e]at i;rw[i,if_neg (fun r=>by cases r.1)];refine⟨(g.gl R.bt).take a,?_,by rw[List.length_take];omega,by rw[List.take_take,Nat.min_self], .inr ⟨rfl,a,M,Nat.le_refl _,fun r=>e ⟨by omega,r.1⟩⟩⟩;unfold aL;rw[iD (Nat.le_refl _),<-D,v,List.drop_of_length_le (by rw[List.length_take];omega)]
  obtain⟨F,f1,f2,f3,f4⟩:=z;rw[f1]at hok ⊢;have p:({ R with line:=aL F a,commit:=x.a,applied:=x.a,state:=x.b,jumped:=true,news:=R.news }:aa).Ok:=hok.out R.out;have Y:g.Com n R.bt F x.a.toNat:=by rw[v,show((a:Int)).toNat=a by omega];exact l6.com C c f2 f3 (Nat.le_refl _)
  obtain⟨g1,S,T,B,V,W⟩:=h.followed C hr0 (F:=F) (m:=a) c U f4 f2 p Y (fun _=>l7) (by omega) (fun _=>by rw[l7,v];congr 1);refine bA.go (R':={ R with line:=aL F a,commit:=x.a,applied:=x.a,state:=x.b,jumped:=true }) S W rfl (B.posted T ?_);have N:=B.yes (o:=x.a) hf hfj (a:=a) (by omega) G V;rw[<-v]at N;exact N
theorem RI.given{d:Nat}(i:g.Ok n)(h:RI g n j R)(hl:Lt g n f j x)(hfj:f≠j)(hk:x.k=5)(hup:x.t<=R.bt):bA d g n j R (R.given f x):=by
 have a:=qG h.ok (f:Int) hl.right;have b:=dw h.ok (f:Int) x;obtain⟨-,o,c, -⟩:=aH hl.right;unfold aa.given at a ⊢;rcases jK R f x with⟨l,e⟩ | ⟨l,p,e⟩ | ⟨l,p,e⟩
 ·rw[e]at a ⊢;simp only[Bool.false_eq_true,if_false]at a ⊢;exact h.posted i (h.no hl.jn hfj (.inr rfl) (by simp) c (fun e=>by omega))
 ·rw[e];simp only[Bool.false_eq_true,if_false];exact .still i h rfl
 ·rw[e]at a b ⊢;simp only[if_true]at a ⊢;have m:=h.follower (f:=f) b;exact bA.go (R':={ R with role:=0,lead:=(f:Int),ticks:=0 }) (.refl g n j) rfl rfl (m.given1 i rfl hl hfj hk (by show x.t=R.bt;omega) a)
theorem RI.got{d:Nat}(v:g.Ok n)(h:RI g n j R)(hl:Lt g n f j x)(hfj:f≠j)(hk:x.k=4):bA d g n j R (R.got f x):=by
 have hf:=hl.jn;have a3:=h.nn;have a4:=h.ok.n7;have l:=h.ok;obtain⟨b,hb,N⟩:=h.ln;have O:R.line.last=(g.fl j).length:=by rw[N];exact aN hb
 obtain⟨-,a0,a2,Z,a1, -⟩:=aH hl.right;have a5:=bP l.line;have hm:=eL l.mss (i:=f) (by rw[l.m7];omega);have hx:=eL l.xs (i:=f) (by rw[l.x7];omega);have P:((f:Int)).toNat=f:=by omega
 unfold aa.got;simp only[P];split
 ·exact .still v h rfl
 ·rename_i X
  have G:R.role=2:=by
   by_cases e:R.role=2
   ·exact e
   ·exact absurd (.inl e) X
  have hT:x.t=R.bt:=by
   by_cases e:x.t=R.bt
   ·exact e
   ·exact absurd (.inr e) X
  obtain⟨V,J,U,I,T⟩:=h.lead G;have B:∀k:Nat,k<n->g.ack k R.bt<=(g.fl j).length:=fun k p=>by
   rcases Nat.eq_zero_or_pos (g.ack k R.bt) with w | w
   ·omega
   ·have H:=(v.ackle k R.bt p w).2.2;rw[J]at H;exact H
  split
  ·rename_i S
   obtain⟨a,k1,Y⟩:=hl.k4 hk S.1;rw[hT]at Y;have r:({ R with mat:=R.mat.set f (max (R.mat.getD f 0) x.a),nxt:=R.nxt.set f (max (R.nxt.getD f 0) (x.a+1)) }:aa).Ok:=l.matched (by simp[l.m7]) (by simp[l.x7]) (cF l.mss (by omega)) (cF l.xs (by omega))
   have F:RI g n j { R with mat:=R.mat.set f (max (R.mat.getD f 0) x.a),nxt:=R.nxt.set f (max (R.nxt.getD f 0) (x.a+1)) }:=by
    refine⟨r,h.me,h.nn,h.bt,h.ln,h.vote,h.cand,fun _=>⟨V,J,U,fun k p=> ?_,fun k p=> ?_⟩,h.com,h.st⟩
    ·show(R.mat.set f (max (R.mat.getD f 0) x.a)).getD k 0<=_;rw[bi _ _ _ _ (by rw[l.m7];omega)];have w:=I k p;by_cases e:k=f
     ·subst e;rw[if_pos rfl];show max (R.mat.getD k 0) x.a<=(g.ack k R.bt:Int);omega
     ·rw[if_neg e];exact w
    ·show 1<=(R.nxt.set f (max (R.nxt.getD f 0) (x.a+1))).getD k 0/\(R.nxt.set f (max (R.nxt.getD f 0) (x.a+1))).getD k 0<=_;rw[bi _ _ _ _ (by rw[l.x7];omega)];have w:=T k p;by_cases e:k=f
     ·subst e;rw[if_pos rfl];have H:=S.2;omega
     ·rw[if_neg e];exact w
   obtain⟨C,W⟩:=F.look v G;have M:(({ R with mat:=R.mat.set f (max (R.mat.getD f 0) x.a),nxt:=R.nxt.set f (max (R.nxt.getD f 0) (x.a+1)) }:aa).look).role=2:=by obtain⟨m,c,he, -⟩:=ch ({ R with mat:=R.mat.set f (max (R.mat.getD f 0) x.a),nxt:=R.nxt.set f (max (R.nxt.getD f 0) (x.a+1)) }:aa);rw[he];exact G
   split
   ·have D:=C.me;obtain⟨y,q,A⟩:=C.send v M (({ R with mat:=R.mat.set f (max (R.mat.getD f 0) x.a),nxt:=R.nxt.set f (max (R.nxt.getD f 0) (x.a+1)) }:aa).look).out (i:=(f:Int)) (by omega) (by rw[C.nn];omega) (by rw[D];omega);have q:aa.send (({ R with mat:=R.mat.set f (max (R.mat.getD f 0) x.a),nxt:=R.nxt.set f (max (R.nxt.getD f 0) (x.a+1)) }:aa).look) f={ (({ R with mat:=R.mat.set f (max (R.mat.getD f 0) x.a),nxt:=R.nxt.set f (max (R.nxt.getD f 0) (x.a+1)) }:aa).look) with out:=(({ R with mat:=R.mat.set f (max (R.mat.getD f 0) x.a),nxt:=R.nxt.set f (max (R.nxt.getD f 0) (x.a+1)) }:aa).look).out++ [y] }:=q;rw[q];refine .posts v (C.outs _) fun z L=> ?_
    rcases List.mem_append.1 L with s | s
    ·exact .inl (by rw[W]at s;exact s)
    ·rw[List.mem_singleton]at s;subst s;exact .inr A
   ·exact .still v C W
  ·split
   ·rename_i S C
    have r:({ R with nxt:=R.nxt.set f (max (R.mat.getD f 0+1) (min (x.a+1) x.o)) }:aa).Ok:=l.matched (m:=R.mat) (x:=R.nxt.set f (max (R.mat.getD f 0+1) (min (x.a+1) x.o))) l.m7 (by simp[l.x7]) l.mss (cF l.xs (by omega))
    have F:RI g n j { R with nxt:=R.nxt.set f (max (R.mat.getD f 0+1) (min (x.a+1) x.o)) }:=by
     refine⟨r,h.me,h.nn,h.bt,h.ln,h.vote,h.cand,fun _=>⟨V,J,U,I,fun k p=> ?_⟩,h.com,h.st⟩;show 1<=(R.nxt.set f (max (R.mat.getD f 0+1) (min (x.a+1) x.o))).getD k 0/\(R.nxt.set f (max (R.mat.getD f 0+1) (min (x.a+1) x.o))).getD k 0<=_;rw[bi _ _ _ _ (by rw[l.x7];omega)];have w:=T k p;by_cases e:k=f
     ·subst e;rw[if_pos rfl];have H:=I k p;have h7:=B k p;have h6:=C.2.1;omega
     ·rw[if_neg e];exact w
    obtain⟨y,q,A⟩:=F.send v G R.out (i:=(f:Int)) (by omega) (by show(f:Int)<R.n;omega) (by show(f:Int)≠R.me;have:=h.me;omega);have q:aa.send ({ R with nxt:=R.nxt.set f (max (R.mat.getD f 0+1) (min (x.a+1) x.o)) }:aa) f={ R with nxt:=R.nxt.set f (max (R.mat.getD f 0+1) (min (x.a+1) x.o)),out:=R.out++ [y] }:=q;rw[q];refine .posts v (F.outs _) fun z L=> ?_
    rcases List.mem_append.1 L with s | s
    ·exact .inl s
    ·rw[List.mem_singleton]at s;subst s;exact .inr A
   ·exact .still v h rfl
theorem RI.handle(m:g.Ok n)(h:RI g n j R)(hl:Lt g n f j x):bA 1 g n j R (R.handle f x):=by
 have b:f≠j:=by have:=hl.wn;omega
 obtain⟨⟨q,p⟩,k, -⟩:=aH hl.right;unfold aa.handle;split
 ·exact .still m h rfl
 ·obtain⟨r,l⟩:=h.stepUp (d:=0) m k.2;refine r.more (d2:=1) (fun s o i c=> ?_) (Nat.le_refl _);have a:=hl.ext o.ext;unfold aa.heard;split
  ·rename_i e;exact c.asked i a b e l
  ·split
   ·rename_i e;exact c.said i a e
   ·split
    ·rename_i e;exact c.sent i a b e l
    ·split
     ·rename_i e;exact c.got i a b e
     ·split
      ·rename_i e;exact c.given i a b e l
      ·exact .still i c rfl
end
section
variable {R : aa}
theorem tK(R:aa)(i:Int):(R.send i).applied=R.applied:=by obtain⟨y,h⟩:=dj R i;rw[h]
theorem pU(R:aa):(R.others aa.send).applied=R.applied:=by obtain⟨o,h, -⟩:=eG (f:=aa.send) dj R;rw[h]
theorem mq(R:aa):R.look.applied=R.applied:=by obtain⟨m,c,h, -⟩:=ch R;rw[h]
theorem uM(R:aa):R.goLead.applied=R.applied:=by unfold aa.goLead;rw[pU,mq];obtain⟨l,n,h⟩:=kn R;rw[h];rfl
theorem rD(R:aa)(f:Int):(R.count f).applied=R.applied:=by
 unfold aa.count;simp only;split
 ·rw[uM]
 ·rfl
theorem wB(R:aa):R.stand.applied=R.applied:=by
 unfold aa.stand;split
 ·rfl
 ·obtain⟨o,e⟩:=fQ (fun S a=>S.post a ⟨1,0,R.line.last,(bk R.line R.line.last).1,0,false,[],[]⟩) (fun S i=>⟨_,rfl⟩) R.stand0;rw[e,rD];rfl
theorem tJ(R:aa):R.tick.applied=R.applied:=by
 unfold aa.tick;simp only;split
 ·rw[pU]
 ·split
  ·rw[wB]
  ·rfl
theorem nP(R:aa)(b:List UInt8):(R.propose b).1.applied=R.applied:=by
 unfold aa.propose;split
 ·rfl
 ·split
  ·rfl
  ·split
   ·rfl
   ·simp only;split
    ·rfl
    ·rw[pU,mq];rfl
theorem pg(R:aa)(f:Int)(x:ax):(R.handle f x).jumped=true\/(R.handle f x).applied=R.applied:=by
 unfold aa.handle;split
 ·exact .inr rfl
 ·have b:(R.stepUp x.t).applied=R.applied:=by unfold aa.stepUp;split<;>rfl
  rw[<-b];generalize R.stepUp x.t=S;unfold aa.heard;split
  ·refine .inr ?_;unfold aa.asked;simp only;show(if _ then _ else _ :aa).applied=_;split
   ·show(if _ then _ else _ :aa).applied=_;split<;>rfl
   ·split<;>rfl
  ·split
   ·refine .inr ?_;unfold aa.said;split
    ·exact rD _ _
    ·rfl
   ·split
    ·refine .inr ?_;have a:(S.follows f x).1.applied=S.applied:=by
      unfold aa.follows;split
      ·rfl
      ·split<;>rfl
     unfold aa.sent;split
     ·rw[<-a];generalize (S.follows f x).1=Q;unfold aa.sent1;simp only;split
      ·rfl
      ·split
       ·rfl
       ·show(if _ then _ else _ :aa).applied=_;split<;>rfl
     ·exact a
    ·split
     ·refine .inr ?_;unfold aa.got;split
      ·rfl
      ·split
       ·simp only;split
        ·rw[tK,mq]
        ·rw[mq]
       ·split
        ·rw[tK]
        ·rfl
     ·split
      ·have a:(S.follows f x).1.applied=S.applied:=by
        unfold aa.follows;split
        ·rfl
        ·split<;>rfl
       unfold aa.given;split
       ·rw[<-a];generalize (S.follows f x).1=Q;unfold aa.given1;split
        ·exact .inr rfl
        ·exact .inl rfl
       ·exact .inr a
      ·exact .inr rfl
end
section
variable {n i j c : Nat} {g g' : Gh} {R R' : aa} {G : ac}
structure SI (g:Gh) (n c:Nat) (G:ac):Prop where
 ok:g.Ok n
 cnt:g.cnt<=c
 sn:g.sn=G.seen.length
 n1:1<=n
 n7:n<=7
 rsl:G.rs.length=n
 hdl:G.hd.length=n
 ntl:G.nt.length=n
 atl:G.ats.length=n
 right:G.right=true
 ri:∀(j:Nat) (R:aa),G.rs[j]? =some R->RI g n j R/\R.out= []/\R.news= []/\R.jumped=false/\R.commit=R.applied/\G.ats[j]? =some R.applied
 st:∀(j:Nat) (R:aa) (h:List UInt8) (ns:List (List UInt8)),G.rs[j]? =some R->G.hd[j]? =some h->G.nt[j]? =some ns->((ij (aa.new j n) h).bind fun S=>S.loads ns)=some R.bare/\ns.length<=4097*c
 bag:∀y∈G.bag,∃(f:Nat) (x:ax),y.1=f/\y.2.2=cG x/\Lt g n f y.2.1 x
 bagl:G.bag.length<=2000
 seen:G.seen= []\/∃T1 i1,g.Chosen n T1 i1/\G.seen.length<=i1/\G.seen=(g.gl T1).take G.seen.length
 wl:G.wh.length=G.seen.length
 wh:∀(k:Nat) (t:Int),G.wh[k]? =some t->∃T1 i1,T1<=t/\g.Chosen n T1 i1/\k+1<=i1
 led:∀x∈G.led,∃d:Nat,x.2=d/\g.ldr x.1=some d
 ll:G.led.length<=c
theorem RI.item(h:RI g n j R){k:Nat}(h1:R.line.base<=k)(h2:k<(g.fl j).length):R.item ((k+1:Nat):Int)=(g.fl j).getD k (0,[]):=by
 obtain⟨b,e,a⟩:=h.ln;have c:R.line.last=(g.fl j).length:=by rw[a];exact aN e
 have d:R.line.base=b:=by rw[a];rfl
 unfold aa.item;rw[if_pos ⟨by omega,by omega⟩,a];show((g.fl j).drop b).getD (((k+1:Nat):Int)-(b:Int)-1).toNat (0,[])=_;rw[List.getD_eq_getElem?_getD,List.getD_eq_getElem?_getD,List.getElem?_drop,show b+(((k+1:Nat):Int)-(b:Int)-1).toNat=k by omega]
theorem qs(F:List ar)(s:Nat):∀d,s+d<=F.length->(List.range d).map (fun m=>F.getD (s+m) (0,[]))=(F.drop s).take d:=by
 intro d
 induction d with
 | zero=>intro _;rfl
 | succ d ih=>
  intro a;rw[List.range_succ,List.map_append,ih (by omega),List.take_add_one]
  congr 1
  rw[List.getElem?_drop,List.getElem?_eq_getElem (by omega)];show[F.getD (s+d) (0,[])]=_;rw[List.getD_eq_getElem?_getD,List.getElem?_eq_getElem (by omega)];rfl
theorem ql{s:List ar}{F:List ar}{T:Int}{C:Nat}(a:g.Ok n)(hs:s= []\/∃T1 i1,g.Chosen n T1 i1/\s.length<=i1/\s=(g.gl T1).take s.length)(hc:g.Com n T F C){m:Nat}(h1:m<=s.length)(h2:m<=C):s.take m=F.take m:=by
 rcases hs with hs | ⟨T1,i1,i,o,h⟩
 ·subst hs;have:m=0:=by simpa using h1
  subst this;rfl
 ·rcases hc.2 with b | ⟨p,j,l,f,k,e⟩
  ·have:m=0:=by omega
   subst this;rfl
  ·have d:=a.chosen2 i f (m:=m) (by omega) (by omega);have c:s.take m=(g.gl T1).take m:=by
    rw[h,List.take_take,Nat.min_eq_left h1]
   rw[c,d];exact(cD e h2).symm
theorem nE{l a:List ar}{k m:Nat}(h:l.take m=a.take m)(hk:k<m):l[k]? =a[k]? :=by rw[<-List.getElem?_take_of_lt hk,h,List.getElem?_take_of_lt hk]
theorem lo{P:fO->Prop}{i:Nat}:∀(out:List dg) (bag:List fO),(∀y∈bag,P y)->(∀y∈out,P ((i:Int),y.1,cG y.2))->bag.length<=2000->(∀y∈bu i bag out,P y)/\(bu i bag out).length<=2000
 | [],bag,h1,_,h3=>⟨h1,h3⟩
 | y::l,bag,h1,h2,h3=>by
  unfold bu;refine lo l _ ?_ (fun z a=>h2 z (List.mem_cons_of_mem _ a)) ?_
  ·split
   ·intro z a;rcases List.mem_append.1 a with a | a
    ·exact h1 z a
    ·rw[List.mem_singleton]at a;subst a;exact h2 y (by simp)
   ·exact h1
  ·split
   ·rw[List.length_append,List.length_singleton];omega
   ·exact h3
theorem xd(G:ac)(t:Int)(i:Nat):∃l,G.led1 t i={ G with led:=l }/\l.length<=G.led.length+1/\∀x∈l,x∈G.led\/x=(t,(i:Int)):=by
 unfold ac.led1;split
 ·exact⟨_,rfl,by simp,fun x a=>by simpa using a⟩
 ·exact⟨G.led,rfl,by omega,fun x a=> .inl a⟩
theorem kA(G:ac)(i:Nat)(R':aa)(hi:i<G.rs.length)(hin:i<G.nt.length):∃l tt,({ G with rs:=G.rs.set i R' }:ac).coll i R'=
  { rs:=G.rs.set i { R' with jumped:=false,news:= [],out:= [],applied:=(R'.commit.toNat:Int) },hd:=if R'.jumped=true then G.hd.set i R'.head else G.hd,nt:=G.nt.set i (if R'.jumped=true then[] else G.nt.getD i []++R'.news),ats:=(if R'.jumped=true then G.ats.set i (lS R'.state) else G.ats).set i (R'.commit.toNat:Int),bag:=bu i G.bag R'.out,seen:=G.seen++(List.range (R'.commit.toNat-G.seen.length)).map (fun(m:Nat)=>R'.item ((G.seen.length+m+1:Nat):Int)),wh:=G.wh++List.replicate (R'.commit.toNat-G.seen.length) tt,led:=l,right:=G.right }/\l.length<=G.led.length+1/\(∀x∈l,x∈G.led\/(x=(R'.bt,(i:Int))/\R'.role=2))/\R'.bt<=tt:=by
 obtain⟨f,o⟩:∃f:aa,f={ R'.jump.1 with news:= [],out:= [] }:=⟨_,rfl⟩
 have c:f={ R' with jumped:=false,news:= [],out:= [] }:=by rw[o,kq]
 obtain⟨b,q⟩:∃b:ac,b={ ((({ G with rs:=G.rs.set i R' }:ac).jumpd i R').noted i R'.jump.1) with bag:=bu i ((({ G with rs:=G.rs.set i R' }:ac).jumpd i R').noted i R'.jump.1).bag R'.out,rs:=((({ G with rs:=G.rs.set i R' }:ac).jumpd i R').noted i R'.jump.1).rs.set i f }:=⟨_,rfl⟩
 have a:b={ rs:=G.rs.set i f,hd:=if R'.jumped=true then G.hd.set i R'.head else G.hd,nt:=G.nt.set i (if R'.jumped=true then[] else G.nt.getD i []++R'.news),ats:=if R'.jumped=true then G.ats.set i (lS R'.state) else G.ats,bag:=bu i G.bag R'.out,seen:=G.seen,wh:=G.wh,led:=G.led,right:=G.right }:=by
  rw[q,kq];unfold ac.jumpd ac.noted;cases hj:R'.jumped with
  | true=>
   simp only[if_true,List.set_set]
   congr 1
   congr 1
   rw[List.getD_eq_getElem?_getD,List.getElem?_set,if_pos rfl,if_pos hin]
   simp
  | false=>simp only[Bool.false_eq_true,if_false,List.set_set]
 have n:R'.bt<=b.term:=by
  have w:f∈b.rs:=by rw[a];exact List.mem_of_getElem? (i:=i) (by show(G.rs.set i f)[i]? =_;rw[List.getElem?_set,if_pos rfl,if_pos hi])
  have r:=oT (t:=0) w;rw[c]at r;exact r
 obtain⟨j,p⟩:∃j:ac,j=b.seenTo i f R'.commit.toNat:=⟨_,rfl⟩
 have d:j={ rs:=G.rs.set i { R' with jumped:=false,news:= [],out:= [],applied:=(R'.commit.toNat:Int) },hd:=if R'.jumped=true then G.hd.set i R'.head else G.hd,nt:=G.nt.set i (if R'.jumped=true then[] else G.nt.getD i []++R'.news),ats:=(if R'.jumped=true then G.ats.set i (lS R'.state) else G.ats).set i (R'.commit.toNat:Int),bag:=bu i G.bag R'.out,seen:=G.seen++(List.range (R'.commit.toNat-G.seen.length)).map (fun(m:Nat)=>R'.item ((G.seen.length+m+1:Nat):Int)),wh:=G.wh++List.replicate (R'.commit.toNat-G.seen.length) b.term,led:=G.led,right:=G.right }:=by
  rw[p];unfold ac.seenTo;have B:∀k,f.item k=R'.item k:=fun k=>by rw[c];rfl
  have A:b.seen=G.seen:=by rw[a]
  have z:b.wh=G.wh:=by rw[a]
  rw[A,z];simp only[B];generalize b.term=tt;rw[a,c];simp only[List.set_set]
 have g:({ G with rs:=G.rs.set i R' }:ac).coll i R'=if R'.role=2 then j.led1 R'.bt i else j:=by unfold ac.coll;simp only;rw[<-o,<-q,<-p]
 rw[g];by_cases v:R'.role=2
 ·rw[if_pos v];obtain⟨l,w,r,y⟩:=xd j R'.bt i;have e:j.led=G.led:=by rw[d]
  rw[e]at r y;refine⟨l,b.term,?_,r,fun x s=>(y x s).imp id fun h=>⟨h,v⟩,n⟩;rw[w,d]
 ·rw[if_neg v];exact⟨G.led,b.term,d,by omega,fun x s=> .inl s,n⟩
end
section
variable {n i j c : Nat} {g g' : Gh} {R R' : aa} {G : ac}
theorem jD{R:aa}(h:R.Ok)(hs:(aw R.line.l).length<=800000):ij (aa.new R.me R.n) R.head=some R.bare:=by unfold ij;rw[if_neg (xn R),sA (B:=800000) ⟨h.bt0,h.bt1,h.bf0,h.bf1,h.line,h.st,hs⟩ (by omega)];rfl
theorem mU{l:List ar}(h:∀it∈l,bj it=true/\it.2.length<=50):(aw l).length<=68*l.length:=by
 induction l with
 | nil=>simp[aw]
 | cons it l ih=>
  have e:=ih (fun x a=>h x (List.mem_cons_of_mem _ a));have c:=h it (by simp);have d:=lj c.1;have b:aw (it::l)=aw [it]++aw l:=by rw[<-cP];rfl
  rw[b,List.length_append,List.length_cons];omega
theorem RI.sizes(k:g.Ok n)(h:RI g n j R)(hc:g.cnt<=4000):(aw R.line.l).length<=800000/\R.line.put.length<=900000/\R.state.length<=70000/\R.line.last<=4000:=by
 obtain⟨b,m,d⟩:=h.ln;obtain⟨v,p⟩:=k.fb j h.jn;have a:=h.ok;have e:R.line.last=(g.fl j).length:=by rw[d];exact aN m
 have f:R.line.l=(g.fl j).drop b:=by rw[d];rfl
 have t:=mU (l:=R.line.l) (fun it c=>⟨a.line.its it c,p it (by rw[f]at c;exact List.mem_of_mem_drop c)⟩);have s:R.line.l.length<=(g.fl j).length:=by rw[f,List.length_drop];omega
 have i:(aw R.line.l).length<=800000:=by omega
 have o:R.Fit 800000:=⟨a.bt0,a.bt1,a.bf0,a.bf1,a.line,a.st,i⟩
 have r:=o.put;have q:=a.st;exact⟨i,by omega,by omega,by omega⟩
def Gh.saw(g:Gh)(s:Nat):Gh:={ g with sn:=s }
theorem Gh.saw_ext{s:Nat}(h:g.sn<=s):g.Ext (g.saw s) n:=⟨fun _ _ h=>h,fun _ _=>List.prefix_refl _,fun _ _ _=>Nat.le_refl _,fun _ _ _ _=>rfl,fun _ _=>Int.le_refl _,fun _ _ _ _ h=>h,fun _ _ _ _=>rfl,h⟩
theorem Gh.saw_ok{s:Nat}(h:g.Ok n):(g.saw s).Ok n:=⟨h.gline,h.fline,h.cline,h.ackle,h.ackNow,h.ackOld,h.votes,h.voter,h.elect,h.ldrMaj,h.ldrBt,h.fb,h.gb⟩
theorem RI.saw{s:Nat}(h:RI g n j R)(hs:g.sn<=s):RI (g.saw s) n j R:=⟨h.ok,h.me,h.nn,h.bt,h.ln,h.vote,h.cand,h.lead,h.com,h.st.mono hs⟩
theorem RI.rest(h:RI g n j R)(hs:R.commit<=g.sn):RI g n j { R with jumped:=false,news:= [],out:= [],applied:=(R.commit.toNat:Int) }:=by
 have d:=h.ok.ap0;have c:=h.ok.ap1;have b:=h.ok.line.b0;have e:((R.commit.toNat:Nat):Int)=R.commit:=by omega
 rw[e];have a:({ R with jumped:=false,news:= [],out:= [],applied:=R.commit }:aa).Ok:={ h.ok with ap0:=by show R.line.base<=R.commit;omega,ap1:=Int.le_refl _ }
 exact⟨a,h.me,h.nn,h.bt,h.ln,h.vote,h.cand,h.lead,h.com,⟨h.st.1,hs,fun e=>by cases e⟩⟩
theorem xy{a:Nat}(h:a<65536):lS (dn a)=a:=by unfold lS dn;show(((UInt8.ofNat (a / 256)).toNat*256+(UInt8.ofNat a).toNat:Nat):Int)=a;rw[UInt8.toNat_ofNat',UInt8.toNat_ofNat'];omega
theorem SI.acted{d:Nat}(h:SI g n c G)(hc:c<=1000000)(hk:g.cnt<=3990)(hR:G.rs[i]? =some R)(ha:bA d g n i R R')(hd:d<=1)(ht:R'.jumped=true\/bH R R')(hap:R'.jumped=true\/R'.applied=R.applied)(hnw:R'.news.length<=4097)(hol:R'.out.length<=1000):
  Cw { G with rs:=G.rs.set i R' } i n R'/\∃g',SI g' n (c+1) (({ G with rs:=G.rs.set i R' }:ac).coll i R')/\g'.cnt<=g.cnt+d:=by
 obtain⟨p,s1,o1,w,l1,k1⟩:=ha;obtain⟨ri,ro,rn,rj,rc,ra⟩:=h.ri i R hR;have hx:=s1.ext;have hcnt:=h.cnt;have hsn:=h.sn;have N:i<G.rs.length:=(List.getElem?_eq_some_iff.1 hR).1;have hin:i<n:=by rw[<-h.rsl];exact N
 have W:=h.rsl;have a6:=h.hdl;have hntl:=h.ntl;have a8:=h.atl;obtain⟨z1,z2,z3,z4⟩:=w.sizes o1 (by omega);have I:=w.ok;have ha0:=I.ap0;have ha1:=I.ap1;have ha2:=I.cm;have hb0:=I.line.b0;obtain⟨C,hC⟩:∃C:Nat,R'.commit=C:=⟨R'.commit.toNat,by omega⟩
 have hCn:R'.commit.toNat=C:=by omega
 obtain⟨b,hb,hln⟩:=w.ln;have hlast:R'.line.last=(p.fl i).length:=by rw[hln];exact aN hb
 have D:=w.com;rw[hCn]at D;have X:∀y∈R'.out,Lt p n i y.1 y.2:=fun y L=>by
  rcases l1 y L with a | a
  ·rw[ro]at a;cases a
  ·exact a
 have q:G.seen= []\/∃s z,p.Chosen n s z/\G.seen.length<=z/\G.seen=(p.gl s).take G.seen.length:=by
  rcases h.seen with a | ⟨s,z,A,J,T⟩
  ·exact .inl a
  ·refine .inr ⟨s,z,hx.chosen A,J,T.trans (gX (hx.gl s A.1) (by have:=A.2.2.1;omega)).symm⟩
 have hsn1:=s1.sn;have hap1:R'.applied<=(G.seen.length:Int):=by have a:=w.st.2.1;omega
 have hx1:=w.com;have Y:∀m,m<=G.seen.length->m<=C->G.seen.take m=(p.fl i).take m:=fun m h1 h2=>ql o1 q D h1 h2
 have hag:∀(k:Nat) (x:ar),G.seen[k]? =some x->R'.applied<=k->(k:Int)<R'.commit->R'.item ((k+1:Nat):Int)=x:=fun k x hk h1 h2=>by
  have hks:k<G.seen.length:=(List.getElem?_eq_some_iff.1 hk).1;have hkF:k<(p.fl i).length:=by omega
  rw[w.item (by omega) hkF];have h3:=nE (Y (k+1) (by omega) (by omega)) (k:=k) (by omega);rw[hk]at h3;rw[List.getD_eq_getElem?_getD,<-h3];rfl
 have hlead:R'.role=2->∀(k:Nat) (x:ar) (t:Int),G.seen[k]? =some x->G.wh[k]? =some t->t<R'.bt->R'.line.base<(k:Int)+1->(k:Int)+1<=R'.line.last/\R'.item ((k:Int)+1)=x:=fun hr k x t hk ht htb hbk=>by
  obtain⟨q1,q2, -⟩:=w.lead hr;obtain⟨s,z,A,J,T⟩:=h.wh k t ht;have a2':=hx.chosen J;obtain⟨b1,b2⟩:=o1.kept a2' (gC q1) (by omega);rw[q2]at b1 b2;have hkF:k<(p.fl i).length:=by omega
  have hks:k<G.seen.length:=(List.getElem?_eq_some_iff.1 hk).1;refine⟨by omega,?_⟩;have e:=w.item (k:=k) (by omega) hkF;have e9:((k+1:Nat):Int)=(k:Int)+1:=by omega
  rw[e9]at e;rw[e];rcases q with a | ⟨T2,i2,c1,c2,c3⟩
  ·rw[a]at hks;simp at hks
  ·have h3:=o1.chosen2 c1 a2' (m:=k+1) (by omega) (by omega);have h4:G.seen[k]? =(p.fl i)[k]? :=by
    have h5:G.seen.take (k+1)=(p.fl i).take (k+1):=by
     have h6:G.seen.take (k+1)=(p.gl T2).take (k+1):=by rw[c3,List.take_take,Nat.min_eq_left (by omega)]
     rw[h6,h3];exact(cD b2 (by omega)).symm
    exact nE h5 (by omega)
   rw[List.getD_eq_getElem?_getD,<-h4,hk];rfl
 have a5:R'.jumped=true->R'.state=dn R'.applied.toNat:=w.st.2.2;have hats:(({ G with rs:=G.rs.set i R' }:ac).jumpd i R').ats[i]? =some R'.applied:=by
  unfold ac.jumpd;by_cases S:R'.jumped=true
  ·rw[if_pos S];show(G.ats.set i (lS R'.state))[i]? =_;rw[List.getElem?_set,if_pos rfl,if_pos (by omega),a5 S,xy (by omega)]
   congr 1
   omega
  ·rw[if_neg S];show G.ats[i]? =_;rcases hap with h7 | h7
   ·exact absurd h7 S
   ·rw[h7];exact ra
 obtain⟨H,a0⟩:∃H,G.nt[i]? =some H:=⟨_,List.getElem?_eq_getElem (by omega)⟩
 obtain⟨U,a7⟩:∃U,G.hd[i]? =some U:=⟨_,List.getElem?_eq_getElem (by omega)⟩
 obtain⟨F,st2⟩:=h.st i R U H hR a7 a0;have hgd:G.nt.getD i []=H:=by rw[List.getD_eq_getElem?_getD,a0];rfl
 refine⟨⟨by show(G.rs.set i R')[i]? =_;rw[List.getElem?_set,if_pos rfl,if_pos N],by show(G.rs.set i R').length=n;rw[List.length_set];exact W,I,h.right,fun S=>by rw[a5 S];rfl,z2,hats,fun y L=> ?_,hol,by show(G.nt.getD i []).length<=_;rw[hgd];omega,by omega,by show i<G.nt.length;omega,by show i<G.hd.length;omega,hap1,?_,by omega,h.wl,hag,by show G.led.length<=_;have:=h.ll;omega,by show(G.rs.set i R').length<=7;rw[List.length_set];have:=h.n7;omega,fun hr y L hyt=> ?_,hlead,h.bagl⟩,?_⟩
 ·have a:=X y L;exact⟨a.right,a.w0,a.w1,a.wn⟩
 ·show G.seen.length<=10000;rcases h.seen with a | ⟨s,z,A,J,T⟩
  ·rw[a];simp
  ·have h8:=(h.ok.gb s A.1).1;have h7:=A.2.2.1;omega
 ·obtain⟨q1, -⟩:=w.lead hr;obtain⟨d,hd,hdl⟩:=h.led y L;have a:=hx.ldr _ _ hdl;rw[hyt,q1]at a;injection a with a;rw[hd,<-a]
 ·
  obtain⟨l,tt,he,hll,hlm,htt⟩:=kA G i R' N (by omega);rw[hCn]at he;obtain⟨v,V⟩:∃v,v=G.seen++(List.range (C-G.seen.length)).map (fun(m:Nat)=>R'.item ((G.seen.length+m+1:Nat):Int)):=⟨_,rfl⟩
  rw[<-V]at he;have hSl:v.length=max G.seen.length C:=by rw[V,List.length_append,List.length_map,List.length_range];omega
  have O:v= []\/∃s z,p.Chosen n s z/\v.length<=z/\v=(p.gl s).take v.length:=by
   by_cases hCs:C<=G.seen.length
   ·have e:v=G.seen:=by
     rw[V,show C-G.seen.length=0 by omega];simp
    rw[e];exact q
   ·have e:v=(p.fl i).take C:=by
     have h1:(List.range (C-G.seen.length)).map (fun(m:Nat)=>R'.item ((G.seen.length+m+1:Nat):Int))=(List.range (C-G.seen.length)).map (fun m=>(p.fl i).getD (G.seen.length+m) (0,[])):=by
      refine List.map_congr_left fun m hm=> ?_
      rw[List.mem_range]at hm;exact w.item (by omega) (by omega)
     rw[V,h1,qs _ _ _ (by omega)];have h2:=Y G.seen.length (Nat.le_refl _) (by omega);rw[List.take_length]at h2;have h3:(p.fl i).take C=(p.fl i).take G.seen.length++((p.fl i).drop G.seen.length).take (C-G.seen.length):=by
      rw[<-List.take_add]
      congr 1
      omega
     rw[h3,<-h2]
    rcases D.2 with a | ⟨s,z,A,J,T,a4⟩
    ·omega
    ·have e2:v.length=C:=by omega
     refine .inr ⟨s,z,J,by omega,?_⟩;rw[e2,e];exact a4
  have hsl4:v.length<=4000:=by
   rcases O with a | ⟨s,z,A,J,T⟩
   ·rw[a];simp
   ·have h8:=(o1.gb s A.1).1;have h7:=A.2.2.1;omega
  have B:p.sn<=v.length:=by omega
  have hx2:p.Ext (p.saw v.length) n:=Gh.saw_ext B;refine⟨p.saw v.length,?_⟩;rw[he];have M:=lo (i:=i) (P:=fun y=>∃(f:Nat) (x:ax),y.1=f/\y.2.2=cG x/\Lt (p.saw v.length) n f y.2.1 x) R'.out G.bag (fun y L=>by obtain⟨f,x,A,J,T⟩:=h.bag y L;exact⟨f,x,A,J,(T.ext hx).ext hx2⟩) (fun y L=>⟨i,y.2,rfl,rfl,(X y L).ext hx2⟩) h.bagl
  refine⟨⟨Gh.saw_ok o1,by show p.cnt<=c+1;omega,rfl,h.n1,h.n7,by rw[List.length_set];exact W,?_,by rw[List.length_set];exact hntl,?_,h.right,fun k Q r=> ?_,fun k Q hh ns r j o=> ?_,M.1,M.2,?_,?_,fun k t hk=> ?_,fun y L=> ?_,by show l.length<=c+1;have:=h.ll;omega⟩,k1⟩
  ·show(if R'.jumped=true then G.hd.set i R'.head else G.hd).length=n;split
   ·rw[List.length_set];exact a6
   ·exact a6
  ·show((if R'.jumped=true then G.ats.set i (lS R'.state) else G.ats).set i (C:Int)).length=n;rw[List.length_set];split
   ·rw[List.length_set];exact a8
   ·exact a8
  ·have r:(G.rs.set i { R' with jumped:=false,news:= [],out:= [],applied:=(C:Int) })[k]? =some Q:=r;have hatk:((if R'.jumped=true then G.ats.set i (lS R'.state) else G.ats).set i (C:Int))[k]? =if k=i then some (C:Int) else G.ats[k]? :=by
    rw[List.getElem?_set];by_cases e:i=k
    ·subst e;rw[if_pos rfl,if_pos rfl,if_pos];split
     ·rw[List.length_set];omega
     ·omega
    ·have e':¬k=i:=fun e9=>e e9.symm
     rw[if_neg e,if_neg e'];split
     ·rw[List.getElem?_set,if_neg e]
     ·rfl
   show _/\_/\_/\_/\_/\((if R'.jumped=true then G.ats.set i (lS R'.state) else G.ats).set i (C:Int))[k]? =some Q.applied;rw[hatk];rw[List.getElem?_set]at r;by_cases e:i=k
   ·subst e;rw[if_pos rfl,if_pos N]at r;injection r with r;subst r;have a:=(w.saw B).rest (by show R'.commit<=(v.length:Int);omega);rw[hCn]at a;rw[if_pos rfl];exact⟨a,rfl,rfl,rfl,hC,rfl⟩
   ·rw[if_neg e]at r;have e':¬k=i:=fun e9=>e e9.symm
    rw[if_neg e'];obtain⟨p1,p2,p3,p4,p5,p6⟩:=h.ri k Q r;exact⟨(p1.other s1 (fun e9=>e e9.symm)).saw B,p2,p3,p4,p5,p6⟩
  ·have r:(G.rs.set i { R' with jumped:=false,news:= [],out:= [],applied:=(C:Int) })[k]? =some Q:=r;have j:(if R'.jumped=true then G.hd.set i R'.head else G.hd)[k]? =some hh:=j;have o:(G.nt.set i (if R'.jumped=true then[] else G.nt.getD i []++R'.news))[k]? =some ns:=o;rw[List.getElem?_set]at r o;by_cases e:i=k
   ·subst e;rw[if_pos rfl,if_pos N]at r;injection r with r;rw[if_pos rfl,if_pos (by omega)]at o;injection o with o;have hbare:Q.bare=R'.bare:=by rw[<-r];rfl
    rw[hbare];by_cases S:R'.jumped=true
    ·rw[if_pos S]at j o;rw[List.getElem?_set,if_pos rfl,if_pos (by omega)]at j;injection j with j;subst j o;have a:=jD I z1;rw[w.me,w.nn]at a;rw[a];exact⟨rfl,by simp⟩
    ·rw[if_neg S]at j o;rw[a7]at j;injection j with j;subst j;rcases ht with a | ⟨nw,t1,t2,t3⟩
     ·exact absurd a S
     ·rw[rn,List.nil_append]at t1;rw[hgd,t1]at o;subst o;refine⟨?_,by rw[List.length_append,<-t1];omega⟩;cases hld:ij (aa.new i n) U with
      | none=>rw[hld]at F;cases F
      | some Z=>rw[hld]at F;have F:Z.loads H=some R.bare:=F;show Z.loads (H++nw)=_;rw[ki,F];exact t2
   ·rw[if_neg e]at r o;have j:G.hd[k]? =some hh:=by
     split at j
     ·rw[List.getElem?_set,if_neg e]at j;exact j
     ·exact j
    obtain⟨p1,p2⟩:=h.st k Q hh ns r j o;exact⟨p1,by omega⟩
  ·exact O
  ·show(G.wh++List.replicate (C-G.seen.length) tt).length=v.length;rw[List.length_append,List.length_replicate,h.wl];omega
  ·have hk:(G.wh++List.replicate (C-G.seen.length) tt)[k]? =some t:=hk;by_cases hkw:k<G.wh.length
   ·rw[List.getElem?_append_left hkw]at hk;obtain⟨s,z,A,J,T⟩:=h.wh k t hk;exact⟨s,z,A,hx.chosen J,T⟩
   ·rw[List.getElem?_append_right (by omega)]at hk;have a:=List.mem_of_getElem? hk;have hlt:=(List.getElem?_eq_some_iff.1 hk).1;rw[List.length_replicate]at hlt;rw[List.mem_replicate]at a;have hwl:=h.wl;rcases D.2 with h8 | ⟨s,z,A,J,T,a4⟩
    ·omega
    ·exact⟨s,z,by omega,J,by omega⟩
  ·rcases hlm y L with a | ⟨a,h8⟩
   ·obtain⟨d,hd,hdl⟩:=h.led y a;exact⟨d,hd,hx.ldr _ _ hdl⟩
   ·refine⟨i,by rw[a],?_⟩;rw[a];exact(w.lead h8).1
theorem SI.acted0(h:SI g n c G)(hc:c<=2000)(hR:G.rs[i]? =some R)(ha:bA 1 g n i R R')(ht:R'.jumped=true\/bH R R')(hap:R'.jumped=true\/R'.applied=R.applied)(hnw:R'.news.length<=4097)(hol:R'.out.length<=1000):
  Cw { G with rs:=G.rs.set i R' } i n R'/\∃g',SI g' n (c+1) (({ G with rs:=G.rs.set i R' }:ac).coll i R'):=by
 obtain⟨b,g',a, -⟩:=h.acted (by omega) (by have:=h.cnt;omega) hR ha (Nat.le_refl _) ht hap hnw hol;exact⟨b,g',a⟩
end
section
variable {n i j c : Nat} {g g' : Gh} {R R' : aa} {G : ac}
theorem SI.tick(h:SI g n c G)(hc:c<=2000)(hR:G.rs[i]? =some R):Cw { G with rs:=G.rs.set i R.tick } i n R.tick/\∃g',SI g' n (c+1) (({ G with rs:=G.rs.set i R.tick }:ac).coll i R.tick):=by obtain⟨a,e,f,j,k,l⟩:=h.ri i R hR;obtain⟨d,b, -⟩:=nC a.ok.n7;rw[f]at d;rw[e]at b;exact h.acted0 hc hR (a.tick h.ok) (.inr (mC a.ok)) (.inr (tJ R)) (by simpa using d) (by simp at b;omega)
theorem SI.propose(h:SI g n c G)(hc:c<=2000)(hR:G.rs[i]? =some R){b:List UInt8}(k:b.length<=50):Cw { G with rs:=G.rs.set i (R.propose b).1 } i n (R.propose b).1/\∃g',SI g' n (c+1) (({ G with rs:=G.rs.set i (R.propose b).1 }:ac).coll i (R.propose b).1):=by obtain⟨a,f,j,l,m,o⟩:=h.ri i R hR;obtain⟨e,d, -⟩:=ji a.ok.n7 b;rw[j]at e;rw[f]at d;exact h.acted0 hc hR (a.propose h.ok k) (.inr (iZ a.ok b)) (.inr (nP R b)) (by simp at e;omega) (by simp at d;omega)
theorem SI.idle(h:SI g n c G)(hc:c<=2000)(hR:G.rs[i]? =some R):Cw G i n R/\∃g',SI g' n (c+1) (G.coll i R):=by
 obtain⟨j,b,f,k,l,m⟩:=h.ri i R hR;have a:=h.acted0 hc hR (bA.still (d:=1) h.ok j rfl) (.inr (.refl R)) (.inr rfl) (by rw[f];simp) (by rw[b];simp);have e:({ G with rs:=G.rs.set i R }:ac)=G:=by rw[gd hR]
 rw[e]at a;exact a
theorem SI.without(h:SI g n c G)(k:Nat):SI g n c { G with bag:=G.bag.take k++G.bag.drop (k+1) }:=
 ⟨h.ok,h.cnt,h.sn,h.n1,h.n7,h.rsl,h.hdl,h.ntl,h.atl,h.right,h.ri,h.st,fun y a=>by
  rcases List.mem_append.1 a with a | a
  ·exact h.bag y (List.mem_of_mem_take a)
  ·exact h.bag y (List.mem_of_mem_drop a),by
  have b:=h.bagl;show(G.bag.take k++G.bag.drop (k+1)).length<=2000;rw[List.length_append,List.length_take,List.length_drop];omega,h.seen,h.wl,h.wh,h.led,h.ll⟩
theorem SI.twice(h:SI g n c G){y:fO}(b:y∈G.bag)(hl:G.bag.length<2000):SI g n c { G with bag:=G.bag++ [y] }:=
 ⟨h.ok,h.cnt,h.sn,h.n1,h.n7,h.rsl,h.hdl,h.ntl,h.atl,h.right,h.ri,h.st,fun z a=>by
  rcases List.mem_append.1 a with a | a
  ·exact h.bag z a
  ·rw[List.mem_singleton]at a;subst a;exact h.bag z b,by
  show(G.bag++ [y]).length<=2000;rw[List.length_append,List.length_singleton];omega,h.seen,h.wl,h.wh,h.led,h.ll⟩
theorem SI.handle(h:SI g n c G)(hc:c<=2000)(hR:G.rs[i]? =some R){f:Nat}{x:ax}(k:Lt g n f i x):Cw { G with rs:=G.rs.set i (R.handle f x) } i n (R.handle f x)/\∃g',SI g' n (c+1) (({ G with rs:=G.rs.set i (R.handle f x) }:ac).coll i (R.handle f x)):=by obtain⟨a,e,j,l,m,o⟩:=h.ri i R hR;obtain⟨d,b, -⟩:=ku a.ok f x;rw[j]at d;rw[e]at b;exact h.acted0 hc hR (a.handle h.ok k) ((jV a.ok f x).symm) (pg R f x) (by simpa using d) (by simp at b;omega)
theorem SI.load(h:SI g n c G)(hR:G.rs[i]? =some R):∃hd ns,G.hd[i]? =some hd/\G.nt[i]? =some ns/\ns.length<=4097*c/\ly i n hd ns=some R.bare.base/\SI g n c { G with rs:=G.rs.set i R.bare.base,ats:=G.ats.set i R.line.base }:=by
 obtain⟨x,y,z,A,B,C⟩:=h.ri i R hR;have q:i<G.rs.length:=(List.getElem?_eq_some_iff.1 hR).1;have m:=h.rsl;have s:=h.hdl;have o:=h.ntl;have t:=h.atl;obtain⟨d,j⟩:∃d,G.nt[i]? =some d:=⟨_,List.getElem?_eq_getElem (by omega)⟩
 obtain⟨f,l⟩:∃f,G.hd[i]? =some f:=⟨_,List.getElem?_eq_getElem (by omega)⟩
 obtain⟨b,v⟩:=h.st i R f d hR l j;refine⟨f,d,l,j,v,?_,⟨h.ok,h.cnt,h.sn,h.n1,h.n7,by show(G.rs.set i _).length=n;rw[List.length_set];exact m,s,o,by show(G.ats.set i _).length=n;rw[List.length_set];exact t,h.right,fun k Q a=> ?_,fun k Q w ns a r p=> ?_,h.bag,h.bagl,h.seen,h.wl,h.wh,h.led,h.ll⟩⟩
 ·unfold ly;cases hld:ij (aa.new i n) f with
  | none=>rw[hld]at b;cases b
  | some S=>rw[hld]at b;have b:S.loads d=some R.bare:=b;show(S.loads d).map aa.base=_;rw[b];rfl
 ·have a:(G.rs.set i R.bare.base)[k]? =some Q:=a;show _/\_/\_/\_/\_/\(G.ats.set i R.line.base)[k]? =some Q.applied;rw[List.getElem?_set]at a ⊢;by_cases e:i=k
  ·subst e;rw[if_pos rfl,if_pos q]at a;rw[if_pos rfl,if_pos (by omega)];injection a with a;subst a;exact⟨x.load,rfl,rfl,rfl,rfl,rfl⟩
  ·rw[if_neg e]at a ⊢;exact h.ri k Q a
 ·have a:(G.rs.set i R.bare.base)[k]? =some Q:=a;rw[List.getElem?_set]at a;by_cases e:i=k
  ·subst e;rw[if_pos rfl,if_pos q]at a;injection a with a;subst a;exact h.st i R w ns hR r p
  ·rw[if_neg e]at a;exact h.st k Q w ns a r p
theorem SI.compact(h:SI g n c G)(hc:c<=2000)(hR:G.rs[i]? =some R)(hy:(R.compact (dn R.applied.toNat)).2=true):(R.compact (dn R.applied.toNat)).1.line.put.length<=900000/\(R.compact (dn R.applied.toNat)).1.state.length<=70000/\SI g n c { G with rs:=G.rs.set i (R.compact (dn R.applied.toNat)).1,hd:=G.hd.set i (R.compact (dn R.applied.toNat)).1.head,nt:=G.nt.set i [] }:=by
 obtain⟨M,J,L,z,N,O⟩:=h.ri i R hR;have p:i<G.rs.length:=(List.getElem?_eq_some_iff.1 hR).1;have l:=h.rsl;have q:=h.hdl;have m:=h.ntl;have C:=h.cnt;have j:=M.compact z (s:=dn R.applied.toNat) rfl;obtain⟨x,w,v,P⟩:=j.sizes h.ok (by omega);have f:(R.compact (dn R.applied.toNat)).1.out=R.out/\(R.compact (dn R.applied.toNat)).1.news=R.news/\(R.compact (dn R.applied.toNat)).1.jumped=R.jumped/\(R.compact (dn R.applied.toNat)).1.commit=R.commit/\(R.compact (dn R.applied.toNat)).1.applied=R.applied:=by unfold aa.compact;split<;>exact⟨rfl,rfl,rfl,rfl,rfl⟩
 obtain⟨r,t⟩:∃r,r=(R.compact (dn R.applied.toNat)).1:=⟨_,rfl⟩
 rw[<-t]at j x w v f ⊢;obtain⟨I,H,F,D,y⟩:=f;have o:=jD j.ok x;rw[j.me,j.nn]at o;refine⟨w,v,⟨h.ok,h.cnt,h.sn,h.n1,h.n7,by show(G.rs.set i _).length=n;rw[List.length_set];exact l,by show(G.hd.set i _).length=n;rw[List.length_set];exact q,by show(G.nt.set i _).length=n;rw[List.length_set];exact m,h.atl,h.right,fun k Q d=> ?_,fun k Q B A d b a=> ?_,h.bag,h.bagl,h.seen,h.wl,h.wh,h.led,h.ll⟩⟩
 ·have d:(G.rs.set i r)[k]? =some Q:=d;rw[List.getElem?_set]at d;by_cases e:i=k
  ·subst e;rw[if_pos rfl,if_pos p]at d;injection d with d;subst d;exact⟨j,by rw[I];exact J,by rw[H];exact L,by rw[F];exact z,by rw[D,y];exact N,by rw[y];exact O⟩
  ·rw[if_neg e]at d;exact h.ri k Q d
 ·have d:(G.rs.set i r)[k]? =some Q:=d;have b:(G.hd.set i r.head)[k]? =some B:=b;have a:(G.nt.set i [])[k]? =some A:=a;rw[List.getElem?_set]at d b a;by_cases e:i=k
  ·subst e;rw[if_pos rfl,if_pos p]at d;rw[if_pos rfl,if_pos (by omega)]at b a;injection d with d;injection b with b;injection a with a;subst d b a;rw[o];exact⟨rfl,by simp⟩
  ·rw[if_neg e]at d b a;exact h.st k Q B A d b a
def Gh.zero:Gh:=⟨fun _=> [],fun _=> [],fun _=>none,fun _ _=>0,fun _ _=>none,fun _ _=> [],fun _=>0,0,0⟩
theorem Gh.zero_ok(n:Nat):Gh.zero.Ok n:=⟨fun T h=>absurd rfl h,fun j _ i d a=>by have a:i<=0:=a;omega,fun c T _ i d a=>by have a:i<=0:=a;omega,fun k T _ h=>by have h:0<0:=h;omega,fun k _=>⟨rfl,Nat.le_refl _⟩,fun k T i _ _ h=>absurd rfl h,fun k T c _ h=>(by cases h),fun k c T e i _ h=>(by cases h),fun T e i h=>absurd rfl h,fun T c h=>(by cases h),fun T c h=>(by cases h),fun k _=>⟨Nat.le_refl _,fun it b=>(by cases b)⟩,fun T h=>absurd rfl h⟩
theorem wW(n:Nat)(h1:1<=n)(h7:n<=7):SI Gh.zero n 0 (ac.made n):=by
 have g:∀(k:Nat) (Q:aa),(ac.made n).rs[k]? =some Q->k<n/\Q=aa.new k n:=fun k Q c=>by
  have c:((List.range n).map fun(j:Nat)=>aa.new (j:Int) n)[k]? =some Q:=c;rw[List.getElem?_map]at c;by_cases d:k<n
  ·rw[List.getElem?_range d]at c;injection c with c;exact⟨d,c.symm⟩
  ·rw[List.getElem?_eq_none (by simp;omega)]at c;cases c
 refine⟨Gh.zero_ok n,Nat.le_refl _,rfl,h1,h7,by simp[ac.made,ac.madeN],by simp[ac.made,ac.madeN],by simp[ac.made,ac.madeN],by simp[ac.made,ac.madeN],rfl,fun k Q c=> ?_,fun k Q q p c b a=> ?_,fun y i=> ?_,by simp[ac.made,ac.madeN], .inl rfl,rfl,fun k t d=> ?_,fun x l=> ?_,Nat.le_refl _⟩
 ·obtain⟨d,rfl⟩:=g k Q c;have f:=nf (me:=(k:Int)) (n:=(n:Int)) (by omega) (by omega) (by omega) (by omega);refine⟨⟨f,rfl,rfl,rfl,⟨0,Nat.le_refl _,rfl⟩, .inl ⟨rfl,rfl⟩,fun h=> ?_,fun h=> ?_,⟨Nat.le_refl _, .inl rfl⟩,⟨fun o=> ?_,by show(0:Int)<=((0:Nat):Int);omega,fun e=>by cases e⟩⟩,rfl,rfl,rfl,rfl,?_⟩
  ·have h:(0:Int)=1:=h;omega
  ·have h:(0:Int)=2:=h;omega
  ·have o:(1:Int)<=0:=o;omega
  ·show((List.range n).map fun _=>(0:Int))[k]? =some 0;rw[List.getElem?_map,List.getElem?_range d];rfl
 ·obtain⟨d,rfl⟩:=g k Q c;have f:=nf (me:=(k:Int)) (n:=(n:Int)) (by omega) (by omega) (by omega) (by omega);have b:((List.range n).map fun(j:Nat)=>(aa.new (j:Int) n).head)[k]? =some q:=b;have a:((List.range n).map fun _=>([]:List (List UInt8)))[k]? =some p:=a;rw[List.getElem?_map,List.getElem?_range d]at b a;injection b with b;injection a with a;subst b a;have m:=jD f (by show(aw []).length<=800000;decide);have m:ij (aa.new k n) (aa.new k n).head=some (aa.new k n).bare:=m;rw[m];exact⟨rfl,by simp⟩
 ·have i:y∈([]:List fO):=i;cases i
 ·have d:([]:List Int)[k]? =some t:=d;simp at d
 ·have l:x∈([]:List (Int×Int)):=l;cases l
end
end Go.Proofs.YtogcnfhmcpkdcaaGreat
