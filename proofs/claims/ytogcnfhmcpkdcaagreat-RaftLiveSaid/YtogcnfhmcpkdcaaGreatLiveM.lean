/-
The plain law of RaftLive: what a replica's acts come to, in whole. No walk.
-/
import Derived.Test.YtogcnfhmcpkdcaaGreatSfM
set_option maxRecDepth 100000
namespace Go.Proofs.YtogcnfhmcpkdcaaGreat
open Go.RowKit
set_option linter.unusedVariables false
set_option linter.unusedSimpArgs false
section
variable {R : aa} {n j k : Nat} {f : Int} {x : ax}
theorem tg(h:R.Ok)(who:Int):(R.send who).Ok:=by obtain⟨y,a⟩:=dj R who;rw[a];exact h.out _
theorem s9(h:R.Ok)(b:List UInt8):(R.propose b).1.Ok:=by
 unfold aa.propose;split
 ·exact h
 ·rename_i d
  have a:R.role=2:=by omega
  have c:=h.rb (by omega);split
  ·exact h
  ·split
   ·exact h
   ·simp only;split
    ·exact h
    ·exact pB (iF (gG (pC h _) _) c)
theorem vt(h:R.Ok)(f:Int)(x:ax):(R.asked f x).Ok:=by
 unfold aa.asked;simp only;refine gE ?_ _ _;generalize ed x.a x.u R.line.last (bk R.line R.line.last).1=b;have d:(if bJ R.bt R.bf f x.t b=true then({ R with ticks:=0 }:aa) else R).Ok:=by
  split
  ·exact h.tick0 (by omega) (by omega)
  ·exact h
 have c: -1<=cW R.bt R.bf f x.t b/\cW R.bt R.bf f x.t b<=6:=by
  unfold cW;split
  ·rename_i g;have:=pH (ip g);omega
  ·exact⟨h.bf0,h.bf1⟩
 split
 ·refine eO ?_;rw[gw];have e:(if bJ R.bt R.bf f x.t b=true then({ R with ticks:=0 }:aa) else R).bt=R.bt:=by split<;>rfl
  have i:=d.ballot (t:=R.bt) (f:=cW R.bt R.bf f x.t b) (by rw[e];exact Int.le_refl _) h.bt1 c.1 c.2;exact i
 ·exact d
theorem x8(h:R.Ok)(f:Int)(x:ax):(R.said f x).Ok:=by
 unfold aa.said;split
 ·rename_i a;exact qH h (h.rb (by omega)) f
 ·exact h
theorem xY(h:R.Ok)(f:Int)(hf0:0<=f)(hf1:f<R.n){x:ax}(d:aO x=true):(R.got f x).Ok:=by
 obtain⟨-, -,q,g,j, -⟩:=aH d;have k:=h.n7;have l:=eL h.mss (i:=f.toNat) (by rw[h.m7];omega);have e:=eL h.xs (i:=f.toNat) (by rw[h.x7];omega);have p:=bP h.line;unfold aa.got;split
 ·exact h
 ·rename_i s
  have c:=h.rb (by omega);split
  ·rename_i r
   have b:({ R with mat:=R.mat.set f.toNat (max (R.mat.getD f.toNat 0) x.a),nxt:=R.nxt.set f.toNat (max (R.nxt.getD f.toNat 0) (x.a+1)) }:aa).Ok:=h.matched (by simp[h.m7]) (by simp[h.x7]) (cF h.mss (by omega)) (cF h.xs (by omega))
   simp only;split
   ·exact tg (iF b c) _
   ·exact iF b c
  ·split
   ·rename_i b
    exact tg (h.matched (m:=R.mat) (x:=R.nxt.set f.toNat (max (R.mat.getD f.toNat 0+1) (min (x.a+1) x.o))) h.m7 (by simp[h.x7]) h.mss (cF h.xs (by omega))) _
   ·exact h
theorem oR(h:R.Ok)(f:Int)(x:ax):(R.handle f x).Ok:=by
 unfold aa.handle;split
 ·exact h
 ·rename_i d
  have b:aO x=true:=by
   cases hh:aO x with
   | true=>rfl
   | false=>exact absurd (.inr (.inr (.inr hh))) d
  have a:=gp h (aH b).2.1.2;have c:=(oF R x.t).1;unfold aa.heard;split
  ·exact vt a f x
  ·split
   ·exact x8 a f x
   ·split
    ·exact te a f x
    ·split
     ·exact xY a f (by omega) (by rw[c];omega) b
     ·split
      ·exact qG a f b
      ·exact a
def bh(n me:Nat):List Nat:=(List.range n).filter fun i=>decide (i≠me)
theorem cd{n me i:Nat}:i∈bh n me↔i<n/\i≠me:=by simp[bh]
theorem dv{n me:Nat}(h:me<n):(bh n me).length+1=n:=by
 unfold bh
 induction n with
 | zero=>omega
 | succ n ih=>
  rw[List.range_succ,List.filter_append,List.length_append];by_cases e:n=me
  ·subst e;have b:(List.range n).filter (fun i=>decide (i≠n))=List.range n:=by
    rw[List.filter_eq_self];intro a c;simp at c ⊢;omega
   rw[b]
   simp
  ·have b:=ih (by omega);have d:[n].filter (fun i=>decide (i≠me))= [n]:=by simp[e]
   rw[d,List.length_singleton];omega
theorem fK{F:aa->Int->aa}{g:Nat->dg}(me:Nat):∀(k i:Nat) (R:aa),R.me=me->(∀(o:List dg) (i:Nat),F { R with out:=o } i={ R with out:=o++ [g i] })->bI F k i R={ R with out:=R.out++(((List.range k).map (i+ ·)).filter fun m=>decide (m≠me)).map g }
 | 0,i,R,_,_=>by simp[bI]
 | k+1,i,R,hm,hF=>by
  unfold bI;have b:(((List.range (k+1)).map (i+ ·)).filter fun m=>decide (m≠me))=(if i=me then[] else[i])++(((List.range k).map (i+1+ ·)).filter fun m=>decide (m≠me)):=by
   rw[List.range_succ_eq_map,List.map_cons,List.map_map];have d:((i+ ·)∘Nat.succ)=(i+1+ ·):=by funext y;show i+(y+1)=i+1+y;omega
   rw[d,List.filter_cons];by_cases e:i=me
   ·subst e;simp
   ·have f:i+0≠me:=e;rw[if_pos (by simpa using e),if_neg e]
    simp
  have a:((i:Int)+1)=((i+1:Nat):Int):=by omega
  by_cases e:i=me
  ·have e':(i:Int)=R.me:=by omega
   rw[if_pos e',a,fK me k (i+1) R hm hF,b,if_pos e]
   simp
  ·have e':¬(i:Int)=R.me:=by omega
   have c:F R (i:Int)={ R with out:=R.out++ [g i] }:=hF R.out i;rw[if_neg e',c,a,fK me k (i+1) { R with out:=R.out++ [g i] } hm (fun o i=>hF o i),b,if_neg e]
   simp
theorem mX{F:aa->Int->aa}{g:Nat->dg}(b:R.me=j)(hn:R.n=n)(hF:∀(o:List dg) (i:Nat),F { R with out:=o } i={ R with out:=o++ [g i] }):R.others F={ R with out:=R.out++(bh n j).map g }:=by
 unfold aa.others bh;have a:=fK (F:=F) (g:=g) j n 0 R b hF;have e:R.n.toNat=n:=by omega
 have c:(List.range n).map (0+ ·)=List.range n:=by
  have:((0:Nat)+ ·)=(id:Nat->Nat):=by funext y;simp
  rw[this,List.map_id]
 rw[e];rw[c]at a;exact a
def aa.nextL(R:aa)(i:Nat):ax:=
 if R.nxt.getD i 0<=R.line.base then⟨5,R.bt,R.line.base,R.line.term,0,false,[],R.state⟩
 else⟨3,R.bt,R.nxt.getD i 0-1,(bk R.line (R.nxt.getD i 0-1)).1,R.commit,false,R.line.from_ (R.nxt.getD i 0-1+1) 16,[]⟩
theorem ep(R:aa)(i:Nat):((R.nextL i).k=3\/(R.nextL i).k=5)/\(R.nextL i).t=R.bt:=by
 unfold aa.nextL;split
 ·exact⟨.inr rfl,rfl⟩
 ·exact⟨.inl rfl,rfl⟩
theorem ei(R:aa)(i:Nat):R.send i={ R with out:=R.out++ [((i:Int),R.nextL i)] }:=by
 unfold aa.send aa.nextL aa.post;have e:((i:Int).toNat)=i:=by omega
 rw[e];split<;>rfl
theorem iV(a:R.me=j)(hn:R.n=n):R.others aa.send={ R with out:=R.out++(bh n j).map fun i:Nat=>((i:Int),R.nextL i) }:=by
 refine mX a hn fun o i=> ?_
 rw[ei];rfl
def aa.askL(R:aa):ax:=⟨1,R.bt,R.line.last,(bk R.line R.line.last).1,0,false,[],[]⟩
theorem xz(a:R.me=j)(hn:R.n=n):(R.others fun S who=>S.post who ⟨1,0,R.line.last,(bk R.line R.line.last).1,0,false,[],[]⟩)={ R with out:=R.out++(bh n j).map fun i:Nat=>((i:Int),R.askL) }:=mX a hn fun o i=>rfl
theorem kV(a:R.me=j)(hn:R.n=n):∃(l:ae) (nw:List (List UInt8)) (m:List Int) (c:Int),(l=(R.line.add (R.bt,[])).1)/\m=aW.set j l.last/\
  R.goLead={ R with role:=2,lead:=j,ticks:=0,line:=l,news:=nw,mat:=m,nxt:=List.replicate 7 (R.line.last+1),commit:=c,out:=R.out++(bh n j).map fun i:Nat=>((i:Int),({ R with role:=2,lead:=j,ticks:=0,line:=l,news:=nw,mat:=m,nxt:=List.replicate 7 (R.line.last+1),commit:=c }:aa).nextL i) }:=by
 have b:∃nw,R.lead1={ R with role:=2,lead:=j,ticks:=0,nxt:=List.replicate 7 (R.line.last+1),mat:=aW,line:=(R.line.add (R.bt,[])).1,news:=nw }:=by
  unfold aa.lead1 aa.lead0 aa.add aa.noteItems;simp only[a];split
  ·exact⟨_,rfl⟩
  ·exact⟨_,rfl⟩
 obtain⟨nw,e⟩:=b;unfold aa.goLead;obtain⟨m,c,g,d, -⟩:=ch R.lead1;rw[g,e];rw[e]at d;have f:m=aW.set j (R.line.add (R.bt,[])).1.last:=by rw[d];show aW.set R.me.toNat _=_;rw[a];rfl
 refine⟨_,nw,m,c,rfl,f,?_⟩;exact iV (R:={ R with role:=2,lead:=j,ticks:=0,nxt:=List.replicate 7 (R.line.last+1),mat:=m,line:=(R.line.add (R.bt,[])).1,news:=nw,commit:=c }) a hn
theorem mI(b:R.me=j)(hn:R.n=n)(hb:R.bt<1099511627776):R.stand=({ R with ticks:=0,bt:=R.bt+1,bf:=j,news:=R.news++ [bT (R.bt+1) j],role:=1,lead:= -1,votes:=aW,out:=R.out++(bh n j).map fun i:Nat=>((i:Int),({ R with bt:=R.bt+1 }:aa).askL) }:aa).count j:=by
 unfold aa.stand;rw[if_neg (by omega)];have a:R.stand0={ R with ticks:=0,bt:=R.bt+1,bf:=j,news:=R.news++ [bT (R.bt+1) j],role:=1,lead:= -1,votes:=aW }:=by unfold aa.stand0 aa.noteBallot;simp only[b]
 have c:=xz (R:=R.stand0) (j:=j) (n:=n) (by rw[a];exact b) (by rw[a];exact hn);have d:R.stand0.line=R.line:=by rw[a]
 rw[d]at c;rw[c,a,b];rfl
theorem dZ(R:aa)(t:Int):R.stepUp t=if R.bt<t then { R with bt:=t,bf:= -1,news:=R.news++ [bT t (-1)],role:=0,lead:= -1 } else R:=rfl
theorem nO(R:aa)(f:Int)(x:ax):∃(yes:Bool) (nw:List (List UInt8)),yes=bJ R.bt R.bf f x.t (ed x.a x.u R.line.last (bk R.line R.line.last).1)/\
  R.asked f x={ R with ticks:=if yes=true then 0 else R.ticks,bf:=if yes=true then f else R.bf,news:=nw,out:=R.out++ [(f,⟨2,R.bt,0,0,0,yes,[],[]⟩)] }:=by
 obtain⟨yes,b⟩:∃yes,yes=bJ R.bt R.bf f x.t (ed x.a x.u R.line.last (bk R.line R.line.last).1):=⟨_,rfl⟩
 unfold aa.asked;simp only[gw];have e:cW R.bt R.bf f x.t (ed x.a x.u R.line.last (bk R.line R.line.last).1)=if yes=true then f else R.bf:=by unfold cW;rw[b]
 rw[e,<-b];cases yes with
 | true=>
  simp only[if_true];split
  ·exact⟨true,_,rfl,rfl⟩
  ·rename_i d
   have g:f=R.bf:=by
    by_cases c:f=R.bf
    ·exact c
    ·exact absurd (.inr c) d
   exact⟨true,R.news,rfl,by rw[g];rfl⟩
 | false=>simp only[Bool.false_eq_true,if_false];rw[if_neg (by simp)];exact⟨false,R.news,rfl,rfl⟩
theorem gY(R:aa)(f:Int)(x:ax):
  (R.sent1 f x=R/\(R.line.join x.a x.u x.its).2.2=true/\0<(R.line.join x.a x.u x.its).2.1/\(R.line.join x.a x.u x.its).2.1<=R.commit)\/
  ((R.line.join x.a x.u x.its).2.2=false/\R.sent1 f x={ R with out:=R.out++ [(f,⟨4,R.bt,max 0 (min R.line.last (x.a-1)),0,x.a,false,[],[]⟩)] })\/
  ((R.line.join x.a x.u x.its).2.2=true/\∃nw,R.sent1 f x={ R with line:=if 0<(R.line.join x.a x.u x.its).2.1 then(R.line.join x.a x.u x.its).1 else R.line,news:=nw,commit:=max R.commit (min x.o (x.a+x.its.length)),out:=R.out++ [(f,⟨4,R.bt,x.a+x.its.length,0,x.a,true,[],[]⟩)] }):=by
 unfold aa.sent1;simp only;generalize R.line.join x.a x.u x.its=J;split
 ·rename_i h;exact .inl ⟨rfl,h⟩
 ·rename_i h
  split
  ·rename_i c;exact .inr (.inl ⟨c,rfl⟩)
  ·rename_i c
   have d:J.2.2=true:=by simpa using c
   refine .inr (.inr ⟨d,?_⟩);by_cases b:0<J.2.1
   ·rw[if_pos b,if_pos b];exact⟨_,rfl⟩
   ·rw[if_neg b,if_neg b];exact⟨_,rfl⟩
theorem iN(R:aa)(f:Int)(x:ax):(x.a<=R.commit/\R.given1 f x={ R with out:=R.out++ [(f,⟨4,R.bt,R.commit,0,x.a,true,[],[]⟩)] })\/
  (R.commit<x.a/\R.given1 f x={ R with line:=R.giveLine x,commit:=x.a,applied:=x.a,state:=x.b,jumped:=true,out:=R.out++ [(f,⟨4,R.bt,x.a,0,x.a,true,[],[]⟩)] }):=by
 unfold aa.given1;split
 ·rename_i h;exact .inl ⟨h,rfl⟩
 ·rename_i h;exact .inr ⟨by omega,rfl⟩
structure pV (R R':aa) (o:List dg):Prop where
 me:R'.me=R.me
 nn:R'.n=R.n
 bt:R'.bt=R.bt
 bf:R'.bf=R.bf
 role:R'.role=R.role
 lead:R'.lead=R.lead
 ticks:R'.ticks=R.ticks
 votes:R'.votes=R.votes
 out:R'.out=R.out++o
theorem fG(R:aa)(f:Int)(x:ax):∃o,pV R (R.sent1 f x) o/\(R.sent1 f x).mat=R.mat/\(R.sent1 f x).nxt=R.nxt/\(o= []\/∃a y,o= [(f,⟨4,R.bt,a,0,x.a,y,[],[]⟩)]):=by
 rcases gY R f x with⟨e, -⟩ | ⟨-,e⟩ | ⟨-,b,e⟩
 ·exact⟨[],by rw[e];exact⟨rfl,rfl,rfl,rfl,rfl,rfl,rfl,rfl,by simp⟩,by rw[e],by rw[e], .inl rfl⟩
 ·exact⟨_,by rw[e];exact⟨rfl,rfl,rfl,rfl,rfl,rfl,rfl,rfl,rfl⟩,by rw[e],by rw[e], .inr ⟨_,_,rfl⟩⟩
 ·exact⟨_,by rw[e];exact⟨rfl,rfl,rfl,rfl,rfl,rfl,rfl,rfl,rfl⟩,by rw[e],by rw[e], .inr ⟨_,_,rfl⟩⟩
theorem eW(R:aa)(f:Int)(x:ax):∃o,pV R (R.given1 f x) o/\(R.given1 f x).mat=R.mat/\(R.given1 f x).nxt=R.nxt/\(o= []\/∃a y,o= [(f,⟨4,R.bt,a,0,x.a,y,[],[]⟩)]):=by
 rcases iN R f x with⟨-,e⟩ | ⟨-,e⟩
 ·exact⟨_,by rw[e];exact⟨rfl,rfl,rfl,rfl,rfl,rfl,rfl,rfl,rfl⟩,by rw[e],by rw[e], .inr ⟨_,_,rfl⟩⟩
 ·exact⟨_,by rw[e];exact⟨rfl,rfl,rfl,rfl,rfl,rfl,rfl,rfl,rfl⟩,by rw[e],by rw[e], .inr ⟨_,_,rfl⟩⟩
theorem su(R:aa)(f:Int)(x:ax)(hk:x.k=3\/x.k=5)(P:aa)(hP:P=if x.k=3 then R.sent f x else R.given f x):
  (x.t<R.bt/\P={ R with out:=R.out++ [(f,⟨4,R.bt,0,0,x.a,false,[],[]⟩)] })\/(¬x.t<R.bt/\R.role=2/\P=R)\/
  (¬x.t<R.bt/\R.role≠2/\P=if x.k=3 then({ R with role:=0,lead:=f,ticks:=0 }:aa).sent1 f x else({ R with role:=0,lead:=f,ticks:=0 }:aa).given1 f x):=by
 have c:∀F:aa×Bool,R.follows f x=F->P=if x.k=3 then(if F.2=true then F.1.sent1 f x else F.1) else(if F.2=true then F.1.given1 f x else F.1):=fun F g=>by rw[hP];unfold aa.sent aa.given;rw[g]
 rcases jK R f x with⟨b,e⟩ | ⟨b,d,e⟩ | ⟨b,d,e⟩
 ·refine .inl ⟨b,?_⟩;rw[c _ e];simp only[Bool.false_eq_true,if_false,ite_self];rfl
 ·refine .inr (.inl ⟨b,d,?_⟩);rw[c _ e];simp only[Bool.false_eq_true,if_false,ite_self]
 ·refine .inr (.inr ⟨b,d,?_⟩);rw[c _ e];simp only[if_true]
structure Rq (j:Nat) (k:Int) (R:aa):Prop where
 tl:R.role=2->R.ticks<=3
 tf:R.role≠2->R.ticks<20+2*j
 bf:R.role≠0->R.bf=j
 nx:R.role=2->∀i:Nat,i<7->i≠j->R.mat.getD i 0+1<=R.nxt.getD i 0
 bt:R.bt<=k
 ld:R.role=2->R.lead=j
 lt:R.role=2->0<=R.bt->R.bt<=1099511627776->R.line.last<4000->R.line.tm R.line.last=R.bt
def dl(R:aa):Nat:=(if R.role=1 then 3 else 0)+R.ticks.toNat
theorem Rq.up{k':Int}{k:Int}(h:Rq j k R)(hk:k<=k'):Rq j k' R:=⟨h.tl,h.tf,h.bf,h.nx,Int.le_trans h.bt hk,h.ld,h.lt⟩
theorem Rq.lite{R':aa}{o:List dg}{k:Int}(h:Rq j k R)(hl:pV R R' o)(hx:R.role=2->∀i:Nat,i<7->i≠j->R'.mat.getD i 0+1<=R'.nxt.getD i 0)(hln:R.role=2->R'.line=R.line):Rq j k R':=⟨by rw[hl.role,hl.ticks];exact h.tl,by rw[hl.role,hl.ticks];exact h.tf,by rw[hl.role,hl.bf];exact h.bf,by rw[hl.role];exact hx,by rw[hl.bt];exact h.bt,by rw[hl.role,hl.lead];exact h.ld,fun e=>by rw[hl.role]at e;rw[hl.bt,hln e];exact h.lt e⟩
theorem pV.wt{R':aa}{o:List dg}(h:pV R R' o):dl R'=dl R:=by unfold dl;rw[h.role,h.ticks]
theorem tQ(i j:Nat)(v:Int)(h:i≠j):(aW.set j v).getD i 0=0:=by
 rw[List.getD_eq_getElem?_getD,List.getElem?_set,if_neg (fun e=>h e.symm)];unfold aW
 match i with
 | 0=>rfl
 | 1=>rfl
 | 2=>rfl
 | 3=>rfl
 | 4=>rfl
 | 5=>rfl
 | 6=>rfl
 | i+7=>rfl
theorem wZ(i:Nat)(v:Int)(h:i<7):(List.replicate 7 v).getD i 0=v:=by rw[List.getD_eq_getElem?_getD,List.getElem?_replicate,if_pos h];rfl
theorem pv{x:ae}(it:ar):({ x with l:=x.l++ [it] }:ae).tm ({ x with l:=x.l++ [it] }:ae).last=it.1:=by
 have e:({ x with l:=x.l++ [it] }:ae).last=x.base+(x.l.length:Int)+1:=by show x.base+((x.l++ [it]).length:Int)=_;rw[List.length_append,List.length_singleton];push_cast;omega
 unfold ae.tm;rw[e,if_neg (by show ¬ _=x.base;omega),if_neg (by show ¬(_<x.base\/_);omega)];show((x.l++ [it]).getD (x.base+(x.l.length:Int)+1-x.base-1).toNat (0,[])).1=it.1;rw[show(x.base+(x.l.length:Int)+1-x.base-1).toNat=x.l.length by omega]
 simp
theorem ym{x:ae}{t:Int}(a:x.Good)(h0:0<=t)(h1:t<=1099511627776)(hl:(x.add (t,[])).1.last<4000):(x.add (t,[])).1.tm (x.add (t,[])).1.last=t:=by
 have b:=a.b0;unfold ae.add at hl ⊢;by_cases h:bj (t,[])=true/\cL x ((x.l.length:Int)+1)=true
 ·rw[if_pos h];exact pv _
 ·rw[if_neg h]at hl;have hl:x.base+(x.l.length:Int)<4000:=hl;refine absurd ⟨(br _).2 ⟨h0,h1,by show(0:Nat)<=_;omega⟩,?_⟩ h;unfold cL;simp only[Bool.and_eq_true,decide_eq_true_eq];omega
theorem Rq.goLead{k:Int}(h:Rq j k R)(hg:R.line.Good)(hm:R.me=j)(hn:R.n=n)(hj:j<n)(hb:R.bf=j):Rq j k R.goLead/\dl R.goLead=0/\R.goLead.out.length+1=R.out.length+n/\R.goLead.me=j/\R.goLead.n=n:=by
 obtain⟨l,r,m,c,q,p,e⟩:=kV hm hn;rw[e];have d:=bP hg;refine⟨⟨fun _=>by show(0:Int)<=3;omega,fun d=>absurd rfl d,fun _=>hb,fun _ i f b=> ?_,h.bt,fun _=>rfl,fun _ o g a=> ?_⟩,rfl,?_,hm,hn⟩
 ·show m.getD i 0+1<=(List.replicate 7 (R.line.last+1)).getD i 0;rw[p,tQ i j _ b,wZ i _ f];omega
 ·have a:l.last<4000:=a;show l.tm l.last=R.bt;rw[q]at a ⊢;exact ym hg o g a
 ·show(R.out++(bh n j).map _).length+1=_;rw[List.length_append,List.length_map];have:=dv hj;omega
theorem Rq.count{k:Int}(h:Rq j k R)(hg:R.line.Good)(hm:R.me=j)(hn:R.n=n)(hj:j<n)(h5:n<=5)(hr:R.role=1)(f:Int):Rq j k (R.count f)/\(R.count f).out.length+dl (R.count f)<=R.out.length+dl R+1/\(R.count f).me=j/\(R.count f).n=n:=by
 have a:Rq j k { R with votes:=R.votes.set f.toNat 1 }:=⟨h.tl,h.tf,h.bf,h.nx,h.bt,h.ld,h.lt⟩
 unfold aa.count;simp only;split
 ·obtain⟨d,g,b,c⟩:=a.goLead (n:=n) hg hm hn hj (h.bf (by omega));refine⟨d,?_,c⟩;have b:({ R with votes:=R.votes.set f.toNat 1 }:aa).goLead.out.length+1=R.out.length+n:=b;have e:3<=dl R:=by unfold dl;rw[if_pos hr];omega
  omega
 ·exact⟨a,by show R.out.length+dl R<=_;omega,hm,hn⟩
theorem Rq.handle{k:Int}(h:Rq j k R)(hok:R.Ok)(hm:R.me=j)(hn:R.n=n)(h5:n<=5)(ho:R.out= [])(f:Int){x:ax}(ht:x.t<=k):Rq j k (R.handle f x)/\(R.handle f x).out.length+dl (R.handle f x)<=dl R+1/\(R.handle f x).me=j/\(R.handle f x).n=n:=by
 have Y:j<n:=by have:=hok.men;omega
 have L:=hok.m7;have H:=hok.x7;unfold aa.handle;split
 ·exact⟨h,by rw[ho];simp,hm,hn⟩
 ·rename_i C
  have hfj:f≠j:=fun e=>C (.inr (.inr (.inl (by omega))))
  have hf0:0<=f:=by
   by_cases e:f<0
   ·exact absurd (.inl e) C
   ·omega
  have hfn:f<n:=by
   by_cases e:R.n<=f
   ·exact absurd (.inr (.inl e)) C
   ·omega
  obtain⟨S,hS⟩:∃S,S=R.stepUp x.t:=⟨_,rfl⟩
  rw[<-hS];have hq:Rq j k S/\dl S<=dl R/\S.out= []/\S.me=j/\S.n=n/\S.line=R.line/\S.mat.length=7/\S.nxt.length=7:=by
   rw[hS,dZ];split
   ·refine⟨⟨fun e=>(by cases e),fun _=> ?_,fun e=>absurd rfl e,fun e=>(by cases e),ht,fun e=>(by cases e),fun e=>(by cases e)⟩,?_,ho,hm,hn,rfl,L,H⟩
    ·show R.ticks<_;by_cases e:R.role=2
     ·have:=h.tl e;omega
     ·exact h.tf e
    ·unfold dl;simp
   ·exact⟨h,Nat.le_refl _,ho,hm,hn,rfl,L,H⟩
  obtain⟨g,q2,w,s,v,q6,q7,q8⟩:=hq;have D:S.line.Good:=by rw[q6];exact hok.line
  clear hS h;have b:∀d o,pV S d o->(S.role=2->∀i:Nat,i<7->i≠j->d.mat.getD i 0+1<=d.nxt.getD i 0)->(S.role=2->d.line=S.line)->o.length<=1->Rq j k d/\d.out.length+dl d<=dl R+1/\d.me=j/\d.n=n:=fun d o p M O r=>⟨g.lite p M O,by rw[p.wt,p.out,w];simp;omega,p.me.trans s,p.nn.trans v⟩
  unfold aa.heard;split
  ·obtain⟨yes,nw,hy,e⟩:=nO S f x;rw[e];cases yes with
   | true=>
    have hg:=hy.symm;have hbf:S.bf=f\/S.bf= -1:=by simp[bJ]at hg;exact hg.2
    have U:S.role=0:=by
     by_cases e9:S.role=0
     ·exact e9
     ·have:=g.bf e9;omega
    refine⟨⟨fun e=>by have e:S.role=2:=e;omega,fun _=>by show(0:Int)<_;omega,fun e=>absurd U e,fun e=>by have e:S.role=2:=e;omega,g.bt,fun e=>by have e:S.role=2:=e;omega,fun e=>by have e:S.role=2:=e;omega⟩,?_,s,v⟩;show(S.out++ [_]).length+dl _<=_;have q:dl ({ S with ticks:=0,bf:=f,news:=nw,out:=S.out++ [(f,⟨2,S.bt,0,0,0,true,[],[]⟩)] }:aa)<=dl S:=by unfold dl;simp
    have h8:(S.out++ [((f,⟨2,S.bt,0,0,0,true,[],[]⟩):dg)]).length=1:=by rw[w];rfl
    simp only[if_true]at q ⊢;omega
   | false=>refine b _ [(f,⟨2,S.bt,0,0,0,false,[],[]⟩)] ⟨rfl,rfl,rfl,by simp,rfl,rfl,by simp,rfl,rfl⟩ g.nx (fun _=>rfl) (by simp)
  ·split
   ·unfold aa.said;split
    ·rename_i N
     obtain⟨r,G,h8⟩:=g.count D s v Y h5 N.1 f;rw[w]at G;exact⟨r,by simp at G;omega,h8⟩
    ·exact⟨g,by rw[w];simp;omega,s,v⟩
   ·have l:∀hk:x.k=3\/x.k=5,Rq j k (if x.k=3 then S.sent f x else S.given f x)/\(if x.k=3 then S.sent f x else S.given f x).out.length+dl (if x.k=3 then S.sent f x else S.given f x)<=dl R+1/\(if x.k=3 then S.sent f x else S.given f x).me=j/\(if x.k=3 then S.sent f x else S.given f x).n=n:=fun hk=>by
     rcases su S f x hk _ rfl with⟨-,e⟩ | ⟨-, -,e⟩ | ⟨-,N,e⟩
     ·rw[e];exact b _ _ ⟨rfl,rfl,rfl,rfl,rfl,rfl,rfl,rfl,rfl⟩ g.nx (fun _=>rfl) (by simp)
     ·rw[e];exact⟨g,by rw[w];simp;omega,s,v⟩
     ·rw[e];obtain⟨T,hT⟩:∃T:aa,T={ S with role:=0,lead:=f,ticks:=0 }:=⟨_,rfl⟩
      rw[<-hT];have V:Rq j k T:=by rw[hT];exact⟨fun e=>(by cases e),fun _=>by show(0:Int)<_;omega,fun e=>absurd rfl e,fun e=>(by cases e),g.bt,fun e=>(by cases e),fun e=>(by cases e)⟩
      have P:dl T=0:=by rw[hT];rfl
      have hrT:T.role=0:=by rw[hT]
      have W:T.out= []:=by rw[hT];exact w
      have J:T.me=j/\T.n=n:=by rw[hT];exact⟨s,v⟩
      have B:∀d o,pV T d o->(o= []\/∃a y,o= [(f,⟨4,T.bt,a,0,x.a,y,[],[]⟩)])->Rq j k d/\d.out.length+dl d<=dl R+1/\d.me=j/\d.n=n:=fun d o p r=>
       ⟨V.lite p (fun e=>by omega) (fun e=>by omega),by
        rw[p.wt,p.out,W,P];rcases r with r | ⟨a,y,r⟩<;>rw[r]<;>simp,p.me.trans J.1,p.nn.trans J.2⟩
      split
      ·obtain⟨o,r, -, -,G⟩:=fG T f x;exact B _ o r G
      ·obtain⟨o,r, -, -,G⟩:=eW T f x;exact B _ o r G
    split
    ·rename_i z
     have q:=l (.inl z);rw[if_pos z]at q;exact q
    ·split
     ·unfold aa.got;split
      ·exact⟨g,by rw[w];simp;omega,s,v⟩
      ·rename_i N
       have I:S.role=2:=by
        by_cases e:S.role=2
        ·exact e
        ·exact absurd (.inl e) N
       obtain⟨F,hF⟩:∃F:Nat,f=F:=⟨f.toNat,by omega⟩
       subst hF;have hF7:F<7:=by omega
       have hFj:F≠j:=by omega
       simp only[Int.toNat_natCast];split
       ·obtain⟨m,c,e2,e3, -⟩:=ch ({ S with mat:=S.mat.set F (max (S.mat.getD F 0) x.a),nxt:=S.nxt.set F (max (S.nxt.getD F 0) (x.a+1)) }:aa);rw[e2];have e4:m=(S.mat.set F (max (S.mat.getD F 0) x.a)).set j S.line.last:=by
         rw[e3];show(S.mat.set F _).set S.me.toNat _=_;rw[s];rfl
        have M:∀i:Nat,i<7->i≠j->m.getD i 0+1<=(S.nxt.set F (max (S.nxt.getD F 0) (x.a+1))).getD i 0:=fun i Z A=>by
         rw[e4,bi _ _ _ _ (by rw[List.length_set];omega),if_neg A,bi _ _ _ _ (by omega),bi _ _ _ _ (by omega)];have q:=g.nx I i Z A;split
         ·rename_i e;subst e;omega
         ·exact q
        split
        ·rw[ei];exact b _ [_] ⟨rfl,rfl,rfl,rfl,rfl,rfl,rfl,rfl,rfl⟩ (fun _=>M) (fun _=>rfl) (by simp)
        ·exact b _ [] ⟨rfl,rfl,rfl,rfl,rfl,rfl,rfl,rfl,by simp⟩ (fun _=>M) (fun _=>rfl) (by simp)
       ·split
        ·rename_i hno2
         rw[ei];refine b _ [_] ⟨rfl,rfl,rfl,rfl,rfl,rfl,rfl,rfl,rfl⟩ (fun _ i Z A=> ?_) (fun _=>rfl) (by simp);show S.mat.getD i 0+1<=(S.nxt.set F _).getD i 0;rw[bi _ _ _ _ (by omega)];have q:=g.nx I i Z A;split
         ·rename_i e;subst e;omega
         ·exact q
        ·exact⟨g,by rw[w];simp;omega,s,v⟩
     ·split
      ·rename_i z _ X
       have q:=l (.inr X);rw[if_neg z]at q;exact q
      ·exact⟨g,by rw[w];simp;omega,s,v⟩
theorem Rq.tick{k:Int}(h:Rq j k R)(hok:R.Ok)(hm:R.me=j)(hn:R.n=n)(h5:n<=5)(ho:R.out= [])(hk:k<1099511627776):Rq j (k+1) R.tick/\R.tick.out.length+dl R.tick<=dl R+1/\R.tick.me=j/\R.tick.n=n:=by
 have a:j<n:=by have:=hok.men;omega
 have p:=hok.tk0;unfold aa.tick;simp only;split
 ·rename_i c
  rw[iV (R:={ R with ticks:=0 }) hm hn];have b:=h.tl c.1;have g:=dv a;refine⟨⟨fun _=>by show(0:Int)<=3;omega,fun e=>absurd c.1 e,h.bf,h.nx,by show R.bt<=_;have:=h.bt;omega,h.ld,h.lt⟩,?_,hm,hn⟩;show(R.out++(bh n j).map _).length+dl { R with ticks:=0,out:=_ }<=_;rw[ho,List.nil_append,List.length_map];have f:∀o,dl { R with ticks:=0,out:=o }=0:=fun o=>by unfold dl;simp[c.1]
  have m:dl R=R.ticks.toNat:=by unfold dl;rw[if_neg (by omega)];omega
  have s:=c.2;rw[f,m];omega
 ·rename_i c
  split
  ·rename_i l
   have r:=h.bt;rw[mI (R:={ R with ticks:=R.ticks+1 }) hm hn (by show R.bt<_;omega)];obtain⟨T,hT⟩:∃T:aa,T={ R with ticks:=0,bt:=R.bt+1,bf:=j,news:=R.news++ [bT (R.bt+1) j],role:=1,lead:= -1,votes:=aW,out:=R.out++(bh n j).map fun i:Nat=>((i:Int),({ R with ticks:=R.ticks+1,bt:=R.bt+1 }:aa).askL) }:=⟨_,rfl⟩
   have d:Rq j (k+1) T:=by rw[hT];exact⟨fun e=>(by cases e),fun _=>by show(0:Int)<_;omega,fun _=>rfl,fun e=>(by cases e),by show R.bt+1<=_;omega,fun e=>(by cases e),fun e=>(by cases e)⟩
   have b:=d.count (n:=n) (by rw[hT];exact hok.line) (by rw[hT];exact hm) (by rw[hT];exact hn) a h5 (by rw[hT]) (j:Int);rw[hT]at b;have g:dl T=3:=by rw[hT];rfl
   have f:T.out.length+1=n:=by rw[hT];show(R.out++(bh n j).map _).length+1=n;rw[ho,List.nil_append,List.length_map];exact dv a
   rw[hT]at g f;refine⟨b.1,Nat.le_trans b.2.1 ?_,b.2.2⟩;rw[g];have m:19<=dl R:=by unfold dl;have:=l.2;omega
   omega
  ·rename_i l
   have b:¬(R.role=2/\4<=R.ticks+1):=c;refine⟨⟨fun e=>by show R.ticks+1<=3;have e:R.role=2:=e;have:=h.tl e;omega,fun e=>by show R.ticks+1<_;have:=h.tf e;by_cases q:20+2*R.me<=R.ticks+1;exact absurd ⟨e,q⟩ l;omega,h.bf,h.nx,by have:=h.bt;show R.bt<=_;omega,h.ld,h.lt⟩,?_,hm,hn⟩;show R.out.length+dl { R with ticks:=R.ticks+1 }<=_;rw[ho];unfold dl;simp only[List.length_nil];omega
end
section
variable {R R' : aa} {G : ac} {n i j k p : Nat}
theorem Rq.propose{k:Int}(h:Rq j k R)(hok:R.Ok)(hm:R.me=j)(hn:R.n=n)(h5:n<=5)(ho:R.out= [])(b:List UInt8):Rq j k (R.propose b).1/\(R.propose b).1.out.length+dl (R.propose b).1<=dl R+4/\(R.propose b).1.me=j/\(R.propose b).1.n=n:=by
 have p:j<n:=by have:=hok.men;omega
 have s:=hok.m7;have g:Rq j k R/\R.out.length+dl R<=dl R+4/\R.me=j/\R.n=n:=⟨h,by rw[ho];simp,hm,hn⟩
 unfold aa.propose;split
 ·exact g
 ·rename_i A
  have r:R.role=2:=by omega
  split
  ·exact g
  ·split
   ·exact g
   ·simp only;split
    ·exact g
    ·have o:∃l a,(R.add (R.bt,b)).1.noteItems (R.add (R.bt,b)).2={ R with line:=l,news:=a }:=⟨_,_,rfl⟩
     obtain⟨l,a,o⟩:=o;have d:l.tm l.last=R.bt:=by
      have w:l=(R.add (R.bt,b)).1.line:=by have:l=({ R with line:=l,news:=a }:aa).line:=rfl;rw[this,<-o];rfl
      rw[w];rcases iw R.line (R.bt,b) with q | ⟨q, -⟩
      ·rename_i v
       exfalso;refine v ?_;show(R.line.add (R.bt,b)).2=0;rw[q]
      ·show(R.line.add (R.bt,b)).1.tm (R.line.add (R.bt,b)).1.last=R.bt;rw[q];exact pv _
     rw[o];obtain⟨m,c,z,y, -⟩:=ch ({ R with line:=l,news:=a }:aa);rw[z];have x:m=R.mat.set j l.last:=by rw[y];show R.mat.set R.me.toNat _=_;rw[hm];rfl
     rw[iV (R:={ R with line:=l,news:=a,mat:=m,commit:=c }) hm hn];refine⟨⟨h.tl,h.tf,h.bf,fun e i t f=> ?_,h.bt,h.ld,fun _ _ _ _=> ?_⟩,?_,hm,hn⟩
     ·show m.getD i 0+1<=R.nxt.getD i 0;rw[x,List.getD_eq_getElem?_getD,List.getElem?_set,if_neg (fun e=>f e.symm),<-List.getD_eq_getElem?_getD];exact h.nx e i t f
     ·exact d
     ·show(R.out++(bh n j).map _).length+dl R<=_;rw[ho,List.nil_append,List.length_map];have:=dv p;omega
theorem xt{x:ae}(c:x.Good){i:Int}(h:(x.drop i).2=true):(x.drop i).1.last=x.last/\(x.drop i).1.tm (x.drop i).1.last=x.tm x.last:=by
 unfold ae.drop at h ⊢;by_cases b:x.tm i<0
 ·rw[if_pos b]at h;cases h
 ·rw[if_neg b];obtain⟨g,f⟩:=(c.tm_ge i).1 (by omega);have d:x.last=x.base+(x.l.length:Int):=rfl;have e:(⟨i,x.tm i,x.l.drop (i-x.base).toNat⟩:ae).last=x.last:=by
   show i+((x.l.drop (i-x.base).toNat).length:Int)=_;rw[List.length_drop];omega
  refine⟨e,?_⟩;show(⟨i,x.tm i,x.l.drop (i-x.base).toNat⟩:ae).tm (⟨i,x.tm i,x.l.drop (i-x.base).toNat⟩:ae).last=_;rw[e];by_cases a:x.last=i
  ·show(if x.last=i then x.tm i else _)=_;rw[if_pos a,a]
  ·show(if x.last=i then x.tm i else if x.last<i\/(⟨i,x.tm i,x.l.drop (i-x.base).toNat⟩:ae).last<x.last then -1 else((x.l.drop (i-x.base).toNat).getD (x.last-i-1).toNat (0,[])).1)=_;rw[e,if_neg a,if_neg (by omega)];unfold ae.tm;rw[if_neg (by omega),if_neg (by omega),List.getD_eq_getElem?_getD,List.getD_eq_getElem?_getD,List.getElem?_drop];rw[show(i-x.base).toNat+(x.last-i-1).toNat=(x.last-x.base-1).toNat by omega]
theorem Rq.compact{k:Int}(h:Rq j k R)(hg:R.line.Good)(s:List UInt8):Rq j k (R.compact s).1/\dl (R.compact s).1=dl R/\(R.compact s).1.out=R.out/\(R.compact s).1.me=R.me/\(R.compact s).1.n=R.n:=by
 unfold aa.compact;split
 ·exact⟨h,rfl,rfl,rfl,rfl⟩
 ·rename_i b
  refine⟨⟨h.tl,h.tf,h.bf,h.nx,h.bt,h.ld,fun e d c a=> ?_⟩,rfl,rfl,rfl,rfl⟩;obtain⟨g,f⟩:=xt hg (i:=R.applied) (by
   by_cases e:(R.line.drop R.applied).2=true
   ·exact e
   ·exact absurd (.inr (.inr (by simpa using e))) b)
  have a:(R.line.drop R.applied).1.last<4000:=a;show(R.line.drop R.applied).1.tm (R.line.drop R.applied).1.last=R.bt;rw[f];rw[g]at a;exact h.lt e d c a
theorem pn:∀(l:List Nat) (i v:Nat),i<l.length->(l.set i v).sum+l.getD i 0=l.sum+v
 | [],i,v,h=>by simp at h
 | x::l,0,v,h=>by simp;omega
 | x::l,i+1,v,h=>by have:=pn l i v (by simpa using h);simp only[List.set_cons_succ,List.sum_cons,List.getD_cons_succ];omega
theorem fR(i:Nat):∀(o:List dg) (b:List fO),(bu i b o).length<=b.length+o.length
 | [],b=>by simp[bu]
 | y::o,b=>by
  unfold bu;rw[List.length_cons];by_cases a:b.length<2000
  ·rw[if_pos a];have c:=fR i o (b++ [((i:Int),y.1,cG y.2)]);rw[List.length_append,List.length_singleton]at c;omega
  ·rw[if_neg a];have c:=fR i o b;omega
structure RG (n k p:Nat) (G:ac):Prop where
 len:G.rs.length=n
 nl:G.nt.length=n
 rs:∀(j:Nat) (R:aa),G.rs[j]? =some R->R.Ok/\R.me=j/\R.n=n/\R.out= []/\Rq j k R
 psi:G.bag.length+(G.rs.map dl).sum<=p
theorem RG.up{k' p':Nat}(h:RG n k p G)(hk:k<=k')(hp:p<=p'):RG n k' p' G:=⟨h.len,h.nl,fun j R f=>by obtain⟨a,b,c,d,e⟩:=h.rs j R f;exact⟨a,b,c,d,e.up (by omega)⟩,Nat.le_trans h.psi hp⟩
theorem RG.turn{k' p':Nat}(h:RG n k p G)(hR:G.rs[i]? =some R)(hok:R'.Ok)(hm:R'.me=i)(hn:R'.n=n)(ho:R'.out= [])(hq:Rq i k' R')(hk:k<=k'){G':ac}(g:G'.rs=G.rs.set i R')(e2:G'.nt.length=G.nt.length)(hw:G'.bag.length+dl R'+p<=G.bag.length+dl R+p'):RG n k' p' G':=by
 have l:i<G.rs.length:=(List.getElem?_eq_some_iff.1 hR).1;refine⟨by rw[g,List.length_set];exact h.len,by rw[e2];exact h.nl,fun j Q f=> ?_,?_⟩
 ·rw[g,List.getElem?_set]at f;by_cases e:i=j
  ·subst e;rw[if_pos rfl,if_pos l]at f;injection f with f;subst f;exact⟨hok,hm,hn,ho,hq⟩
  ·rw[if_neg e]at f;obtain⟨a,b,c,d,e⟩:=h.rs j Q f;exact⟨a,b,c,d,e.up (by omega)⟩
 ·have r:=pn (G.rs.map dl) i (dl R') (by rw[List.length_map];exact l);have q:(G.rs.map dl).getD i 0=dl R:=by rw[List.getD_eq_getElem?_getD,List.getElem?_map,hR];rfl
  have m:G'.rs.map dl=(G.rs.map dl).set i (dl R'):=by rw[g,List.map_set]
  have o:=h.psi;rw[m];omega
theorem th(h:R.Ok):({ R with jumped:=false,news:= [],out:= [],applied:=(R.commit.toNat:Int) }:aa).Ok:=by
 have c:=h.ap0;have b:=h.ap1;have a:=h.line.b0;have e:((R.commit.toNat:Nat):Int)=R.commit:=by omega
 rw[e];exact { h with ap0:=by show R.line.base<=R.commit;omega,ap1:=Int.le_refl _ }
theorem RG.acted{d k' p':Nat}(h:RG n k p G)(hR:G.rs[i]? =some R)(hok:R'.Ok)(hm:R'.me=i)(hn:R'.n=n)(hq:Rq i k' R')(hw:R'.out.length+dl R'<=dl R+d)(hk:k<=k')(hp:p+d<=p'):RG n k' p' (({ G with rs:=G.rs.set i R' }:ac).coll i R'):=by have a:i<G.rs.length:=(List.getElem?_eq_some_iff.1 hR).1;obtain⟨l,b,e, -⟩:=kA G i R' a (by rw[h.nl,<-h.len];exact a);rw[e];refine h.turn (R':={ R' with jumped:=false,news:= [],out:= [],applied:=(R'.commit.toNat:Int) }) hR (th hok) hm hn rfl ⟨hq.tl,hq.tf,hq.bf,hq.nx,hq.bt,hq.ld,hq.lt⟩ hk rfl (by show(G.nt.set i _).length=_;rw[List.length_set]) ?_;show(bu i G.bag R'.out).length+dl R'+p<=_;have:=fR i R'.out G.bag;omega
end
section
variable {R R' : aa} {G : ac} {g : Gh} {n i j k c m p : Nat} {f : Nat} {x : ax}
def jk(R:aa):Nat:=if R.role=1 then 1 else 0
theorem pS{R R':aa}(h:R'.role=R.role\/R'.role=0\/R'.role=2):jk R'<=jk R:=by
 unfold jk;rcases h with h | h | h
 ·rw[h];exact Nat.le_refl _
 ·rw[if_neg (by omega)];omega
 ·rw[if_neg (by omega)];omega
theorem lE(a:R.me=j)(hn:R.n=n):R.goLead.role=2:=by obtain⟨l,b,m,c, -, -,e⟩:=kV a hn;rw[e]
theorem vN(R:aa)(f:Int)(x:ax):(R.got f x).role=R.role:=by
 unfold aa.got;split
 ·rfl
 ·split
  ·obtain⟨m,c,b, -⟩:=ch ({ R with mat:=R.mat.set f.toNat (max (R.mat.getD f.toNat 0) x.a),nxt:=R.nxt.set f.toNat (max (R.nxt.getD f.toNat 0) (x.a+1)) }:aa);simp only;rw[b];split
   ·obtain⟨y,e⟩:=dj ({ R with mat:=m,nxt:=R.nxt.set f.toNat (max (R.nxt.getD f.toNat 0) (x.a+1)),commit:=c }:aa) f;rw[e]
   ·rfl
  ·split
   ·obtain⟨y,e⟩:=dj ({ R with nxt:=R.nxt.set f.toNat (max (R.mat.getD f.toNat 0+1) (min (x.a+1) x.o)) }:aa) f;rw[e]
   ·rfl
theorem RI.count2(b:g.Ok n)(h:RI g n j R)(hr:R.role=1)(hf:f<n)(hv:g.vote f R.bt=some j):∃d,d<=1/\bA d g n j R (R.count f)/\d+jk (R.count f)<=jk R:=by
 have i:=h.count b hr hf hv;by_cases he:bD R.n<=ef (R.votes.set f 1)
 ·refine⟨1,Nat.le_refl _,i,?_⟩;have e:(R.count f).role=2:=by
   unfold aa.count;simp only;rw[show((f:Int)).toNat=f by omega,if_pos he];exact lE (R:={ R with votes:=R.votes.set f 1 }) h.me h.nn
  unfold jk;rw[if_neg (by omega),if_pos hr];exact Nat.le_refl _
 ·have e:R.count f={ R with votes:=R.votes.set f 1 }:=by
   unfold aa.count;simp only;rw[show((f:Int)).toNat=f by omega,if_neg he]
  refine⟨0,by omega,?_,by rw[e];show 0+jk R<=_;omega⟩;obtain⟨c1,c2,c3⟩:=h.cand hr;have c:=h.ok.n7;have l:=h.nn;rw[e];refine .still b ⟨h.ok.voted (by simp[h.ok.v7]) (cF h.ok.vs (by omega)),h.me,h.nn,h.bt,h.ln,h.vote,fun _=>⟨c1,c2,fun k a=> ?_⟩,h.lead,h.com,h.st⟩ rfl;have a:(R.votes.set f 1).getD k 0≠0:=a;rw[bi _ _ _ _ (by rw[h.ok.v7];omega)]at a;by_cases e:k=f
  ·subst e;exact⟨hf,hv⟩
  ·rw[if_neg e]at a;exact c3 k a
theorem RI.handle2(C:g.Ok n)(h:RI g n j R)(hl:Lt g n f j x):∃d,d<=1/\bA d g n j R (R.handle f x)/\d+jk (R.handle f x)<=jk R:=by
 have c:f≠j:=by have:=hl.wn;omega
 obtain⟨⟨N,M⟩,v, -⟩:=aH hl.right;unfold aa.handle;split
 ·exact⟨0,by omega, .still C h rfl,by omega⟩
 ·obtain⟨F,s⟩:=h.stepUp (d:=0) C v.2;have U:jk (R.stepUp x.t)<=jk R:=by
   refine pS ?_;rw[dZ];split
   ·exact .inr (.inl rfl)
   ·exact .inl rfl
  generalize R.stepUp x.t=S at F s U;obtain⟨Y,A,m,l,J,k1⟩:=F;have b:=hl.ext A.ext;have a:∀ {d:Nat} {T:aa},d<=1->bA d Y n j S T->d+jk T<=jk S->∃d,d<=1/\bA d g n j R T/\d+jk T<=jk R:=fun {d T} O V P=>
   ⟨d,O,by
    obtain⟨X,z,H,G,I,k2⟩:=V;refine⟨X,A.trans z,H,G,fun y L=> ?_,by omega⟩;rcases I y L with q | q
    ·rcases J y q with p | p
     ·exact .inl p
     ·exact .inr (p.ext z.ext)
    ·exact .inr q,by omega⟩
  unfold aa.heard;split
  ·rename_i e
   refine a (d:=0) (by omega) (l.asked m b c e s) ?_;obtain⟨yes,nw, -,Z⟩:=nO S f x;rw[Z,Nat.zero_add];exact pS (.inl rfl)
  ·split
   ·rename_i e
    unfold aa.said;split
    ·rename_i r
     obtain⟨W,q,p⟩:=r;have D:=b.k2 e p;rw[q,show((j:Int)).toNat=j by omega]at D;obtain⟨d,a1,a2,a3⟩:=l.count2 m W b.jn D;exact a a1 a2 a3
    ·exact a (d:=0) (by omega) (.still m l rfl) (by omega)
   ·have i:∀B:x.k=3\/x.k=5,jk (if x.k=3 then S.sent f x else S.given f x)<=jk S:=fun B=>by
     refine pS ?_;rcases su S f x B _ rfl with⟨-,e⟩ | ⟨-, -,e⟩ | ⟨-, -,e⟩
     ·rw[e];exact .inl rfl
     ·rw[e];exact .inl rfl
     ·rw[e];split
      ·obtain⟨o,r, -⟩:=fG ({ S with role:=0,lead:=f,ticks:=0 }:aa) f x;exact .inr (.inl r.role)
      ·obtain⟨o,r, -⟩:=eW ({ S with role:=0,lead:=f,ticks:=0 }:aa) f x;exact .inr (.inl r.role)
    split
    ·rename_i e
     have w:=i (.inl e);rw[if_pos e]at w;exact a (d:=0) (by omega) (l.sent m b c e s) (by omega)
    ·split
     ·rename_i e
      exact a (d:=0) (by omega) (l.got m b c e) (by rw[Nat.zero_add];exact pS (.inl (vN S f x)))
     ·split
      ·rename_i e3 _ e
       have w:=i (.inr e);rw[if_neg e3]at w;exact a (d:=0) (by omega) (l.given m b c e s) (by omega)
      ·exact a (d:=0) (by omega) (.still m l rfl) (by omega)
abbrev L3:=Nat×Nat×ax
structure AS where
 r:Nat->aa
 ls:List L3
def bM(R:aa):aa:={ R with jumped:=false,news:= [],out:= [],applied:=(R.commit.toNat:Int) }
def AS.put(A:AS)(i:Nat)(R:aa):AS:=⟨fun k=>if k=i then bM R else A.r k,A.ls++R.out.map fun y=>(i,y.1.toNat,y.2)⟩
def AS.tick1(A:AS)(i:Nat):AS:=A.put i (A.r i).tick
def AS.ticks:Nat->AS->AS
 | 0,A=>A
 | k+1,A=>(AS.ticks k A).tick1 k
def AS.del(A:AS):AS:=
 match A.ls with
 | []=>A
 | y::l=>(⟨A.r,l⟩:AS).put y.2.1 ((A.r y.2.1).handle y.1 y.2.2)
def AS.dels:Nat->AS->AS
 | 0,A=>A
 | k+1,A=>AS.dels k A.del
def sH(y:L3):fO:=((y.1:Int),(y.2.1:Int),cG y.2.2)
structure Ab (n:Nat) (G:ac) (A:AS):Prop where
 len:G.rs.length=n
 rs:∀i,i<n->G.rs[i]? =some (A.r i)
 bag:G.bag=A.ls.map sH
 ok:∀y∈A.ls,aO y.2.2=true
theorem lr(i:Nat):∀(o:List dg) (b:List fO),b.length+o.length<=2000->bu i b o=b++o.map fun y=>((i:Int),y.1,cG y.2)
 | [],b,_=>by simp[bu]
 | y::o,b,h=>by
  unfold bu;simp only[List.length_cons]at h;rw[if_pos (by omega),lr i o _ (by simp;omega)]
  simp
theorem Ab.put{A:AS}(h:Ab n G A)(hn:G.nt.length=n)(hi:i<n)(hb:G.bag.length+R'.out.length<=2000)(ho:∀y∈R'.out,aO y.2=true/\0<=y.1):Ab n (({ G with rs:=G.rs.set i R' }:ac).coll i R') (A.put i R'):=by
 obtain⟨l,f,e, -⟩:=kA G i R' (by rw[h.len];exact hi) (by rw[hn];exact hi);rw[e];refine⟨by show(G.rs.set i _).length=n;rw[List.length_set];exact h.len,fun k d=> ?_,?_,fun y a=> ?_⟩
 ·show(G.rs.set i _)[k]? =some (if k=i then bM R' else A.r k);rw[List.getElem?_set];by_cases b:i=k
  ·subst b;rw[if_pos rfl,if_pos (by rw[h.len];exact hi),if_pos rfl];rfl
  ·rw[if_neg b,if_neg (fun e=>b e.symm)];exact h.rs k d
 ·show bu i G.bag R'.out=(A.ls++R'.out.map fun y=>(i,y.1.toNat,y.2)).map sH;rw[lr i _ _ hb,h.bag,List.map_append,List.map_map]
  congr 1
  refine List.map_congr_left fun y a=> ?_
  have:=(ho y a).2;show _=((i:Int),((y.1.toNat:Nat):Int),cG y.2)
  rw[show((y.1.toNat:Nat):Int)=y.1 by omega]
 ·rcases List.mem_append.1 a with a | a
  ·exact h.ok y a
  ·obtain⟨z,c,rfl⟩:=List.mem_map.1 a;exact(ho z c).1
theorem vg{x y:ax}(b:aO x=true)(hy:aO y=true)(h:cG x=cG y):x=y:=by have a:=jH b [];have c:=jH hy [];rw[h,c]at a;injection a with a _;exact a.symm
def Kn(n c k p m:Nat)(A:AS):Prop:=∃g G,SI g n c G/\Ab n G A/\RG n k p G/\g.cnt+(G.rs.map jk).sum<=m
theorem Ab.lt{A:AS}(h:Ab n G A)(hs:SI g n c G){y:L3}(b:y∈A.ls):Lt g n y.1 y.2.1 y.2.2:=by
 have k:sH y∈G.bag:=by rw[h.bag];exact List.mem_map_of_mem b
 obtain⟨f,x,e,a,d⟩:=hs.bag _ k;have e:(y.1:Int)=(f:Int):=e;have a:cG y.2.2=cG x:=a;have j:=vg (h.ok y b) d.right a;have i:y.1=f:=by omega
 rw[i,j];exact d
end
section
variable {R R' : aa} {G : ac} {g : Gh} {n i j k c m p : Nat} {A : AS}
structure FI (g:Gh) (G:ac) (n c k p m:Nat) (A:AS):Prop where
 si:SI g n c G
 ab:Ab n G A
 rg:RG n k p G
 cn:g.cnt+(G.rs.map jk).sum<=m
theorem uS:∀(l:List aa) (i:Nat) (R:aa),l[i]? =some R->dl R<=(l.map dl).sum
 | [],i,R,h=>by simp at h
 | x::l,0,R,h=>by simp at h;subst h;simp
 | x::l,i+1,R,h=>by have:=uS l i R (by simpa using h);simp only[List.map_cons,List.sum_cons];omega
theorem wj{l:List aa}(a:l[i]? =some R)(S:aa):((l.set i S).map jk).sum+jk R=(l.map jk).sum+jk S:=by
 have b:i<l.length:=(List.getElem?_eq_some_iff.1 a).1;have d:=pn (l.map jk) i (jk S) (by rw[List.length_map];exact b);have c:(l.map jk).getD i 0=jk R:=by rw[List.getD_eq_getElem?_getD,List.getElem?_map,a];rfl
 rw[List.map_set];omega
theorem xF(h:R.Ok):dl R<=43:=by have b:=h.tk1;have a:=h.tk0;unfold dl;split<;>omega
theorem ws(R:aa):jk R<=1:=by unfold jk;split<;>omega
theorem tG(G:ac)(i:Nat)(R':aa)(hi:i<G.rs.length)(hin:i<G.nt.length):(({ G with rs:=G.rs.set i R' }:ac).coll i R').rs=G.rs.set i (bM R'):=by obtain⟨l,a,e, -⟩:=kA G i R' hi hin;rw[e];rfl
theorem FI.acted{d w:Nat}(h:FI g G n c k p m A)(hc:c<=1000000)(hm:m<=3990)(hp:p+w<=2000)(hw4:w<=4)(hi:i<n)(ha:bA d g n i (A.r i) R')(hd:d<=1)(ht:R'.jumped=true\/bH (A.r i) R')(hap:R'.jumped=true\/R'.applied=(A.r i).applied)(hnw:R'.news.length<=4097)
 (q:Rq i ((k+w:Nat):Int) R')(hw:R'.out.length+dl R'<=dl (A.r i)+w):
  Cw { G with rs:=G.rs.set i R' } i n R'/\∃g',FI g' (({ G with rs:=G.rs.set i R' }:ac).coll i R') n (c+1) (k+w) (p+w) (m+d+1) (A.put i R')/\g'.cnt<=g.cnt+d:=by
 have e:=h.ab.rs i hi;have J:=uS G.rs i _ e;have I:=h.rg.psi;obtain⟨b,t,s, -, -⟩:=h.rg.rs i _ e;have v:=xF b;obtain⟨L,x,z,f,B,C⟩:=id ha;obtain⟨a,g',o,j⟩:=h.si.acted hc (by have:=h.cn;omega) e ha hd ht hap hnw (by omega);refine⟨a,g',⟨o,h.ab.put h.si.ntl hi (by omega) (fun y l=>⟨(a.out y l).1,(a.out y l).2.1⟩),h.rg.acted e f.ok f.me f.nn q hw (by omega) (Nat.le_refl _),?_⟩,j⟩;rw[tG _ _ _ (by rw[h.si.rsl];exact hi) (by rw[h.si.ntl];exact hi)];have H:=wj e (bM R');have F:=ws (bM R');have D:=h.cn;omega
theorem FI.tick(h:FI g G n c k p m A)(h5:n<=5)(hc:c<=1000000)(hm:m<=3990)(hk:k<=1000000)(hp:p+1<=2000)(hi:i<n):
  Cw { G with rs:=G.rs.set i (A.r i).tick } i n (A.r i).tick/\∃g',FI g' (({ G with rs:=G.rs.set i (A.r i).tick }:ac).coll i (A.r i).tick) n (c+1) (k+1) (p+1) (m+2) (A.tick1 i):=by
 have f:=h.ab.rs i hi;obtain⟨a,e,d,b,t⟩:=h.rg.rs i _ f;obtain⟨o,y,l,z,B,C⟩:=h.si.ri i _ f;obtain⟨s,q, -⟩:=t.tick a e d h5 b (by omega);obtain⟨j, -⟩:=nC a.n7;rw[l]at j;obtain⟨x,g',v, -⟩:=h.acted (w:=1) hc hm hp (by omega) hi (o.tick h.si.ok) (Nat.le_refl 1) (.inr (mC a)) (.inr (tJ _)) (by simpa using j) (by exact_mod_cast s) q;exact⟨x,g',v⟩
theorem FI.propose(h:FI g G n c k p m A)(h5:n<=5)(hc:c<=1000000)(hm:m<=3990)(hp:p+4<=2000)(hi:i<n){b:List UInt8}(x:b.length<=50):
  Cw { G with rs:=G.rs.set i ((A.r i).propose b).1 } i n ((A.r i).propose b).1/\∃g',FI g' (({ G with rs:=G.rs.set i ((A.r i).propose b).1 }:ac).coll i ((A.r i).propose b).1) n (c+1) (k+4) (p+4) (m+2) (A.put i ((A.r i).propose b).1):=by
 have j:=h.ab.rs i hi;obtain⟨a,f,e,d,v⟩:=h.rg.rs i _ j;obtain⟨q,B,o,C,D,F⟩:=h.si.ri i _ j;obtain⟨t,s, -⟩:=v.propose a f e h5 d b;obtain⟨l, -⟩:=ji a.n7 b;rw[o]at l;obtain⟨z,g',y, -⟩:=h.acted (w:=4) hc hm hp (by omega) hi (q.propose h.si.ok x) (Nat.le_refl 1) (.inr (iZ a b)) (.inr (nP _ b)) (by simp at l;omega) (t.up (by omega)) s;exact⟨z,g',y⟩
theorem FI.del(h:FI g G n c k p m A)(h5:n<=5)(hc:c<=1000000)(hm:m<=3990)(hp:p<=1900){f:Nat}{x:ax}{l:List L3}(M:A.ls=(f,j,x)::l):
  Lt g n f j x/\G.bag[0]? =some ((f:Int),(j:Int),cG x)/\j<n/\Cw { G with bag:=G.bag.take 0++G.bag.drop 1,rs:=G.rs.set j ((A.r j).handle f x) } j n ((A.r j).handle f x)/\
   ∃g',FI g' (({ G with bag:=G.bag.take 0++G.bag.drop 1,rs:=G.rs.set j ((A.r j).handle f x) }:ac).coll j ((A.r j).handle f x)) n (c+1) k p m A.del:=by
 have i:=h.ab.lt h.si (y:=(f,j,x)) (by rw[M];exact List.mem_cons_self);have i:Lt g n f j x:=i;have z:j<n:=by have:=i.w1;omega
 have C:=h.ab.rs j z;obtain⟨q,T,S,R,hq⟩:=h.rg.rs j _ C;obtain⟨a,v⟩:∃a:ac,a={ G with bag:=G.bag.take 0++G.bag.drop 1 }:=⟨_,rfl⟩
 have o:SI g n c a:=by rw[v];exact h.si.without 0
 have s:G.bag=sH (f,j,x)::l.map sH:=by rw[h.ab.bag,M];rfl
 have I:a.bag=l.map sH:=by rw[v];show G.bag.take 0++G.bag.drop 1=_;rw[s];rfl
 have b:a.rs=G.rs:=by rw[v]
 have F:a.nt=G.nt:=by rw[v]
 have X:Ab n a ⟨A.r,l⟩:=⟨by rw[b];exact h.ab.len,fun k hk=>by rw[b];exact h.ab.rs k hk,I,fun y L=>h.ab.ok y (by rw[M];exact List.mem_cons_of_mem _ L)⟩
 have Y:a.rs[j]? =some (A.r j):=by rw[b];exact C
 obtain⟨ri,ro,rn,rj,rc,ra⟩:=h.si.ri j _ C;obtain⟨d,hd,W,hcd⟩:=ri.handle2 h.si.ok i;have U:=i.jn;have J:=h.ab.rs f U;obtain⟨-, -, -, -,P⟩:=h.rg.rs f _ J;have N:x.t<=(k:Int):=by have Z:=i.t;rw[<-(h.si.ri f _ J).1.bt]at Z;exact Int.le_trans Z P.bt
 obtain⟨w,q2,q3,q4⟩:=hq.handle q T S h5 R (f:Int) N;obtain⟨g1,g2, -⟩:=ku q (f:Int) x;rw[rn]at g1;have Z:=uS G.rs j _ C;have h2:=h.rg.psi;have h43:=xF q;have a0:G.bag.length=a.bag.length+1:=by rw[s,I];rfl
 obtain⟨B,g',hs,hcn⟩:=o.acted hc (by have:=h.cn;omega) Y W hd ((jV q _ x).symm) (pg _ _ x) (by simpa using g1) (by omega);have V:=tG a j ((A.r j).handle f x) (by rw[o.rsl];exact z) (by rw[o.ntl];exact z);have D:=X.put o.ntl z (by omega) (fun y L=>⟨(B.out y L).1,(B.out y L).2.1⟩);have H:A.del=(⟨A.r,l⟩:AS).put j ((A.r j).handle f x):=by unfold AS.del;rw[M]
 have O:RG n k p (({ a with rs:=a.rs.set j ((A.r j).handle f x) }:ac).coll j ((A.r j).handle f x)):=by obtain⟨lx,tt,e, -⟩:=kA a j ((A.r j).handle f x) (by rw[o.rsl];exact z) (by rw[o.ntl];exact z);rw[e];refine h.rg.turn (R':=bM ((A.r j).handle f x)) C (th (oR q _ x)) q3 q4 rfl ⟨w.tl,w.tf,w.bf,w.nx,w.bt,w.ld,w.lt⟩ (Nat.le_refl _) (by rw[<-b];rfl) (by show(a.nt.set j _).length=_;rw[List.length_set,F]) ?_;show(bu j a.bag ((A.r j).handle f x).out).length+dl ((A.r j).handle f x)+p<=_;have:=fR j ((A.r j).handle f x).out a.bag;omega
 have he:({ G with bag:=G.bag.take 0++G.bag.drop 1,rs:=G.rs.set j ((A.r j).handle f x) }:ac)={ a with rs:=a.rs.set j ((A.r j).handle f x) }:=by rw[v]
 rw[he];refine⟨i,by rw[s];rfl,z,B,g',hs,by rw[H];exact D,O,?_⟩;rw[V,b];have h3:=wj C (bM ((A.r j).handle f x));have h4:jk (bM ((A.r j).handle f x))=jk ((A.r j).handle f x):=rfl;have h5:=h.cn;omega
structure Vw (n k p:Nat) (A:AS):Prop where
 n1:1<=n
 n5:n<=5
 ok:∀j,j<n->(A.r j).Ok
 me:∀j,j<n->(A.r j).me=j
 nn:∀j,j<n->(A.r j).n=n
 out:∀j,j<n->(A.r j).out= []
 q:∀j,j<n->Rq j k (A.r j)
 right:∀y∈A.ls,aO y.2.2=true
 f:∀y∈A.ls,y.1<n/\y.2.1<n/\y.1≠y.2.1
 t:∀y∈A.ls,y.2.2.t<=(A.r y.1).bt
 one:∀i j,i<n->j<n->(A.r i).role=2->(A.r j).role=2->(A.r i).bt=(A.r j).bt->i=j
 led:∀y∈A.ls,(y.2.2.k=3\/y.2.2.k=5)->∀L,L<n->(A.r L).role=2->(A.r L).bt=y.2.2.t->y.1=L
 bag:A.ls.length<=p
 nxl:∀j,j<n->(A.r j).role=2->∀i,i<n->(A.r j).nxt.getD i 0<=(A.r j).line.last+1
theorem FI.vw(h:FI g G n c k p m A)(h5:n<=5):Vw n k p A:=by
 have a:∀j,j<n->RI g n j (A.r j):=fun j d=>(h.si.ri j _ (h.ab.rs j d)).1
 have q:∀j,j<n->_:=fun j d=>h.rg.rs j _ (h.ab.rs j d)
 refine⟨h.si.n1,h5,fun j d=>(a j d).ok,fun j d=>(a j d).me,fun j d=>(a j d).nn,fun j d=>(q j d).2.2.2.1,fun j d=>(q j d).2.2.2.2,h.ab.ok,fun y o=> ?_,fun y o=> ?_,fun i j x d e v F=> ?_,fun y o s L D e v=> ?_,?_,fun j d B i x=> ?_⟩
 ·have f:=h.ab.lt h.si o;have e:=f.w1;have v:=f.wn;exact⟨f.jn,by omega,by omega⟩
 ·have f:=h.ab.lt h.si o;have e:=f.t;rw[<-(a y.1 f.jn).bt]at e;exact e
 ·have l:=((a i x).lead e).1;have z:=((a j d).lead v).1;rw[F,z]at l;injection l with l;exact l.symm
 ·have f:=h.ab.lt h.si o;have l:=((a L D).lead e).1;have z:g.ldr y.2.2.t=some y.1:=by
   rcases s with s | s
   ·exact(f.k3 s).1
   ·exact(f.k5 s).1
  rw[v,z]at l;injection l with l
 ·have e:=h.rg.psi;rw[h.ab.bag,List.length_map]at e;omega
 ·obtain⟨b,C,w⟩:=(a j d).ln;have e:=(((a j d).lead B).2.2.2.2 i x).2;rw[w,aN C];exact e
theorem Kn.of(h:FI g G n c k p m A):Kn n c k p m A:=⟨g,G,h.si,h.ab,h.rg,h.cn⟩
theorem Kn.fi(h:Kn n c k p m A):∃g G,FI g G n c k p m A:=by obtain⟨g,G,a,b,c,d⟩:=h;exact⟨g,G,a,b,c,d⟩
theorem Kn.up(h:Kn n c k p m A){c' k' p' m':Nat}(f:c<=c')(hk:k<=k')(hp:p<=p')(hm:m<=m'):Kn n c' k' p' m' A:=by
 obtain⟨g,G,a,b,d,e⟩:=h;exact⟨g,G,⟨a.ok,Nat.le_trans a.cnt f,a.sn,a.n1,a.n7,a.rsl,a.hdl,a.ntl,a.atl,a.right,a.ri,fun j R l i s r q=>(by obtain⟨o,t⟩:=a.st j R l i s r q;exact⟨o,by omega⟩),a.bag,a.bagl,a.seen,a.wl,a.wh,a.led,Nat.le_trans a.ll f⟩,b,d.up hk hp,Nat.le_trans e hm⟩
theorem Kn.vw(h:Kn n c k p m A)(h5:n<=5):Vw n k p A:=by obtain⟨g,G,h⟩:=h.fi;exact h.vw h5
theorem Kn.tick1(h:Kn n c k p m A)(h5:n<=5)(hc:c<=1000000)(hm:m<=3990)(hk:k<=1000000)(hp:p+1<=2000)(hi:i<n):Kn n (c+1) (k+1) (p+1) (m+2) (A.tick1 i):=by obtain⟨g,G,h⟩:=h.fi;obtain⟨-,a,h⟩:=h.tick h5 hc hm hk hp hi;exact .of h
theorem Kn.del(h:Kn n c k p m A)(h5:n<=5)(hc:c<=1000000)(hm:m<=3990)(hp:p<=1900):Kn n (c+1) k p m A.del:=by
 obtain⟨g,G,h⟩:=h.fi;cases hl:A.ls with
 | nil=>
  have e:A.del=A:=by unfold AS.del;rw[hl]
  rw[e];exact(Kn.of h).up (by omega) (Nat.le_refl _) (Nat.le_refl _) (Nat.le_refl _)
 | cons y l=>obtain⟨f,j,x⟩:=y;obtain⟨-, -, -, -,b,a⟩:=h.del h5 hc hm hp hl;exact .of a
end
def aa.foll(S:aa)(f:Nat):aa:={ S with role:=0,lead:=f,ticks:=0 }
inductive HC (S:aa) (f:Nat) (x:ax) (T:aa):Prop
 | ask (yes:Bool) (nw:List (List UInt8)) (hk:x.k=1) (hy:yes=bJ S.bt S.bf f x.t (ed x.a x.u S.line.last (bk S.line S.line.last).1)) (e:T={ S with ticks:=if yes=true then 0 else S.ticks,bf:=if yes=true then(f:Int) else S.bf,news:=nw,out:=S.out++ [((f:Int),⟨2,S.bt,0,0,0,yes,[],[]⟩)] })
 | vote (hk:x.k=2) (hr:S.role=1) (ht:x.t=S.bt) (hy:x.y=true) (e:T=S.count f)
 | still (e:T=S) (h:(x.k=2/\¬(S.role=1/\x.t=S.bt/\x.y=true))\/(x.k=4/\¬(S.role=2/\x.t=S.bt))\/((x.k=3\/x.k=5)/\S.role=2/\¬x.t<S.bt))
 | refuse (hk:x.k=3\/x.k=5) (ht:x.t<S.bt) (e:T={ S with out:=S.out++ [((f:Int),⟨4,S.bt,0,0,x.a,false,[],[]⟩)] })
 | follow (hk:x.k=3\/x.k=5) (ht:¬x.t<S.bt) (hr:S.role≠2) (e:T=if x.k=3 then(S.foll f).sent1 f x else(S.foll f).given1 f x)
 | got (hk:x.k=4) (hr:S.role=2) (ht:x.t=S.bt) (e:T=S.got f x)
section
variable {R R' S : aa} {n i j k c m : Nat} {A : AS} {f : Nat} {x : ax}
theorem cR(o:R.me=j)(hn:R.n=n)(hf:f<n)(hfj:f≠j)(hr:aO x=true):HC (R.stepUp x.t) f x (R.handle f x):=by
 obtain⟨⟨l,i⟩, -⟩:=aH hr;have m:R.handle f x=(R.stepUp x.t).heard f x:=by
  unfold aa.handle;rw[if_neg];rintro(h | h | h | h)
  ·omega
  ·omega
  ·omega
  ·rw[hr]at h;cases h
 rw[m];generalize R.stepUp x.t=S;have c:∀a:x.k=3\/x.k=5,HC S f x (S.heard f x):=fun a=>by
  have e:S.heard f x=(if x.k=3 then S.sent f x else S.given f x):=by
   unfold aa.heard;rcases a with a | a
   ·rw[if_neg (by omega),if_neg (by omega),if_pos a,if_pos a]
   ·rw[if_neg (by omega),if_neg (by omega),if_neg (by omega),if_neg (by omega),if_pos a,if_neg (by omega)]
  rcases su S f x a _ e with⟨b,e⟩ | ⟨b,d,e⟩ | ⟨b,d,e⟩
  ·exact .refuse a b e
  ·exact .still e (.inr (.inr ⟨a,d,b⟩))
  ·exact .follow a b d e
 have a:x.k=1\/x.k=2\/x.k=3\/x.k=4\/x.k=5:=by omega
 rcases a with a | a | a | a | a
 ·obtain⟨yes,g,b,d⟩:=nO S f x;refine .ask yes g a b ?_;unfold aa.heard;rw[if_pos a];exact d
 ·have e:S.heard f x=S.said f x:=by unfold aa.heard;rw[if_neg (by omega),if_pos a]
  by_cases h:S.role=1/\x.t=S.bt/\x.y=true
  ·refine .vote a h.1 h.2.1 h.2.2 ?_;rw[e];unfold aa.said;rw[if_pos h]
  ·refine .still ?_ (.inl ⟨a,h⟩);rw[e];unfold aa.said;rw[if_neg h]
 ·exact c (.inl a)
 ·have e:S.heard f x=S.got f x:=by unfold aa.heard;rw[if_neg (by omega),if_neg (by omega),if_neg (by omega),if_pos a]
  by_cases h:S.role=2/\x.t=S.bt
  ·exact .got a h.1 h.2 e
  ·refine .still ?_ (.inr (.inl ⟨a,h⟩));rw[e];unfold aa.got;rw[if_pos];by_cases b:S.role=2
   ·exact .inr (fun d=>h ⟨b,d⟩)
   ·exact .inl b
 ·exact c (.inr a)
theorem gB(R:aa)(t:Int):(t<=R.bt/\R.stepUp t=R)\/(R.bt<t/\(R.stepUp t).bt=t/\(R.stepUp t).bf= -1/\(R.stepUp t).role=0/\(R.stepUp t).ticks=R.ticks/\(R.stepUp t).line=R.line/\(R.stepUp t).out=R.out/\(R.stepUp t).me=R.me/\(R.stepUp t).n=R.n):=by
 rw[dZ];split
 ·rename_i h;exact .inr ⟨h,rfl,rfl,rfl,rfl,rfl,rfl,rfl,rfl⟩
 ·rename_i h;exact .inl ⟨by omega,rfl⟩
theorem re(S:aa)(f:Nat)(x:ax):∃o,pV S (S.got f x) o/\(S.got f x).line=S.line/\(S.got f x).state=S.state/\(o= []\/o= [((f:Int),(S.got f x).nextL f)]):=by
 unfold aa.got;split
 ·exact⟨[],⟨rfl,rfl,rfl,rfl,rfl,rfl,rfl,rfl,by simp⟩,rfl,rfl, .inl rfl⟩
 ·simp only[Int.toNat_natCast];split
  ·obtain⟨m,c,b, -⟩:=ch ({ S with mat:=S.mat.set f (max (S.mat.getD f 0) x.a),nxt:=S.nxt.set f (max (S.nxt.getD f 0) (x.a+1)) }:aa);rw[b];split
   ·rw[ei];exact⟨_,⟨rfl,rfl,rfl,rfl,rfl,rfl,rfl,rfl,rfl⟩,rfl,rfl, .inr rfl⟩
   ·exact⟨[],⟨rfl,rfl,rfl,rfl,rfl,rfl,rfl,rfl,by simp⟩,rfl,rfl, .inl rfl⟩
  ·split
   ·rw[ei];exact⟨_,⟨rfl,rfl,rfl,rfl,rfl,rfl,rfl,rfl,rfl⟩,rfl,rfl, .inr rfl⟩
   ·exact⟨[],⟨rfl,rfl,rfl,rfl,rfl,rfl,rfl,rfl,by simp⟩,rfl,rfl, .inl rfl⟩
theorem fU(a:S.me=j)(hn:S.n=n)(f:Nat):(¬bD S.n<=ef (S.votes.set f 1)/\S.count f={ S with votes:=S.votes.set f 1 })\/
  (bD S.n<=ef (S.votes.set f 1)/\∃(l:ae) (nw:List (List UInt8)) (m:List Int) (c:Int) (T:aa),l=(S.line.add (S.bt,[])).1/\m=aW.set j l.last/\T={ S with votes:=S.votes.set f 1,role:=2,lead:=j,ticks:=0,line:=l,news:=nw,mat:=m,nxt:=List.replicate 7 (S.line.last+1),commit:=c }/\
   S.count f={ T with out:=S.out++(bh n j).map fun i:Nat=>((i:Int),T.nextL i) }):=by
 unfold aa.count;simp only[Int.toNat_natCast];split
 ·rename_i h
  refine .inr ⟨h,?_⟩;obtain⟨l,nw,m,c,d,b,e⟩:=kV (R:={ S with votes:=S.votes.set f 1 }) a hn;exact⟨l,nw,m,c,_,d,b,rfl,e⟩
 ·rename_i h
  exact .inl ⟨h,rfl⟩
theorem uB(d:R.me=j)(hn:R.n=n)(hf:f<n)(hfj:f≠j)(hr:aO x=true):(R.handle f x).bt=max R.bt x.t:=by
 have p:(R.stepUp x.t).bt=max R.bt x.t:=by
  rcases gB R x.t with⟨h,e⟩ | ⟨h,e, -⟩
  ·rw[e];omega
  ·rw[e];omega
 have a:(R.stepUp x.t).me=j/\(R.stepUp x.t).n=n:=by
  rcases gB R x.t with⟨h,e⟩ | ⟨h, -, -, -, -, -, -,i,g⟩
  ·rw[e];exact⟨d,hn⟩
  ·rw[i,g];exact⟨d,hn⟩
 have h:=cR d hn hf hfj hr;rw[<-p];generalize R.stepUp x.t=S at h a;cases h with
 | ask yes k hk hy e=>rw[e]
 | vote hk hr ht hy e=>
  rw[e];rcases fU a.1 a.2 f with⟨-,e⟩ | ⟨-,l,k,m,c,T, -, -,i,g⟩
  ·rw[e]
  ·rw[g,i]
 | still e h=>rw[e]
 | refuse hk ht e=>rw[e]
 | follow hk ht hr e=>
  rw[e];split
  ·obtain⟨o,b, -⟩:=fG (S.foll f) f x;rw[b.bt];rfl
  ·obtain⟨o,b, -⟩:=eW (S.foll f) f x;rw[b.bt];rfl
 | got hk hr ht e=>obtain⟨o,b, -⟩:=re S f x;rw[e,b.bt]
end
section
variable {R R' S T : aa} {n i j k c m : Nat} {A : AS} {f : Nat} {x : ax}
structure HS (R S:aa) (j n:Nat) (x:ax):Prop where
 me:S.me=j
 nn:S.n=n
 out:S.out= []
 tk:S.ticks=R.ticks
 ln:S.line=R.line
 c:(x.t<=R.bt/\S=R)\/(R.bt<x.t/\S.bt=x.t/\S.bf= -1/\S.role=0)
theorem vJ(a:R.me=j)(hn:R.n=n)(ho:R.out= []):HS R (R.stepUp x.t) j n x:=by
 rcases gB R x.t with⟨h,e⟩ | ⟨h,l,k,i,g,f,d,c,b⟩
 ·rw[e];exact⟨a,hn,ho,rfl,rfl, .inl ⟨h,rfl⟩⟩
 ·exact⟨c.trans a,b.trans hn,d.trans ho,g,f, .inr ⟨h,l,k,i⟩⟩
structure HE (R:aa) (j n f:Nat) (x:ax) (T:aa):Prop where
 bt:T.bt=max R.bt x.t
 role:T.role=0\/(T.role=R.role/\x.t<=R.bt)\/(T.role=2/\R.role=1/\x.t=R.bt/\x.k=2)
 out:∀y∈T.out,y.2.t=T.bt/\((y.2.k=2/\x.k=1/\y.1=f)\/(y.2.k=4/\(x.k=3\/x.k=5)/\y.1=f)\/((y.2.k=3\/y.2.k=5)/\T.role=2/\(x.k=2\/x.k=4)))
 dep:x.t<R.bt->(x.k=1\/x.k=3\/x.k=5)->∃y∈T.out,y.1=f/\y.2.t=R.bt
 fol:(x.k=3\/x.k=5)->R.bt<=x.t->¬(R.role=2/\R.bt=x.t)->T.role=0/\T.lead=f/\T.ticks=0
 stay:R.role=0->x.t<=R.bt->T.role=0/\(T.lead=R.lead\/((x.k=3\/x.k=5)/\x.t=R.bt/\T.lead=f))
 ldr:R.role=2->x.t<=R.bt->R.bf=j->f≠j->T.role=2/\T.lead=R.lead/\T.ticks=R.ticks
 tk:T.ticks=R.ticks\/(T.ticks=0/\((x.k=1/\R.bt<=x.t/\ed x.a x.u R.line.last (bk R.line R.line.last).1=true)\/((x.k=3\/x.k=5)/\R.bt<=x.t)\/T.role=2))
 ln:T.line=R.line\/((x.k=3\/x.k=5)/\R.bt<=x.t)\/(T.role=2/\R.role=1)
theorem uA(O:R.me=j)(hn:R.n=n)(ho:R.out= [])(hf:f<n)(hfj:f≠j)(hr:aO x=true):HE R j n f x (R.handle f x):=by
 have p:=uB O hn hf hfj hr;have W:HS R (R.stepUp x.t) j n x:=vJ O hn ho;have h:=cR O hn hf hfj hr;generalize R.stepUp x.t=S at h W;generalize R.handle f x=T at p h;obtain⟨Z,Y,C,L,I,v⟩:=W;have D:S.role=0\/(S.role=R.role/\x.t<=R.bt):=by
  rcases v with⟨a,b⟩ | ⟨a, -, -,b⟩
  ·exact .inr ⟨by rw[b],a⟩
  ·exact .inl b
 have hbS:S.bt=max R.bt x.t:=by
  rcases v with⟨a,b⟩ | ⟨a,b, -⟩
  ·rw[b];omega
  ·rw[b];omega
 cases h with
 | ask yes nw hk hy e=>
  have w:T.out= [((f:Int),⟨2,S.bt,0,0,0,yes,[],[]⟩)]:=by rw[e];show S.out++_=_;rw[C];rfl
  have q:T.role=S.role:=by rw[e]
  have B:T.lead=S.lead:=by rw[e]
  have A:T.ticks=if yes=true then 0 else S.ticks:=by rw[e]
  have U:T.line=S.line:=by rw[e]
  have V:T.bt=S.bt:=by rw[e]
  clear e;refine⟨p,?_,fun y d=> ?_,fun g k=>⟨_,by rw[w];exact List.mem_singleton.2 rfl,rfl,?_⟩,fun g=>by omega,fun g k=> ?_,fun g k s z=> ?_,?_, .inl (U.trans I)⟩
  ·rw[q];exact D.imp id .inl
  ·rw[w,List.mem_singleton]at d;subst d;exact⟨V.symm, .inl ⟨rfl,hk,rfl⟩⟩
  ·show S.bt=R.bt;omega
  ·rcases v with⟨a,b⟩ | ⟨a, -⟩
   ·rw[q,B,b];exact⟨g, .inl rfl⟩
   ·omega
  ·rcases v with⟨a,b⟩ | ⟨a, -⟩
   ·subst b;have N:yes=false:=by
     cases yes with
     | false=>rfl
     | true=>have H:=hy.symm;simp[bJ]at H;omega
    rw[q,B,A,N];exact⟨g,rfl,rfl⟩
   ·omega
  ·cases yes with
   | false=>exact .inl (A.trans L)
   | true=>have H:=hy.symm;have G:x.t=S.bt:=kT H;refine .inr ⟨A, .inl ⟨hk,by omega,?_⟩⟩;rw[<-I];simp[bJ]at H;exact H.1.1.2
 | vote hk hr1 ht hy e=>
  rcases v with⟨a,b⟩ | ⟨a, -, -,b⟩
  ·subst b;rcases fU Z Y f with⟨-,F⟩ | ⟨-,l,nw,m,c,X,g,k,F,J⟩
   ·rw[F]at e;refine⟨p, .inr (.inl ⟨by rw[e],a⟩),fun y d=> ?_,fun g k=>by omega,fun g=>by omega,fun g k=>by omega,fun g k s z=>by omega, .inl (by rw[e]), .inl (by rw[e])⟩;rw[e]at d;have d:y∈S.out:=d;rw[C]at d;cases d
   ·rw[J]at e;have q:T.role=2:=by rw[e,F]
    refine⟨p, .inr (.inr ⟨q,hr1,ht,hk⟩),fun y d=> ?_,fun g k=>by omega,fun g=>by omega,fun g k=>by omega,fun g k s z=>by omega, .inr ⟨by rw[e,F], .inr (.inr q)⟩, .inr (.inr ⟨q,hr1⟩)⟩;rw[e]at d;have d:y∈S.out++(bh n j).map fun i:Nat=>((i:Int),X.nextL i):=d
    rw[C,List.nil_append]at d;obtain⟨i, -,rfl⟩:=List.mem_map.1 d;have G:=ep X i;exact⟨G.2.trans (by rw[e]), .inr (.inr ⟨G.1,q, .inl hk⟩)⟩
  ·omega
 | still e hh=>
  have w:T.out= []:=by rw[e,C]
  refine⟨p,by rw[e];exact D.imp id .inl,fun y d=>(by rw[w]at d;cases d),fun g k=> ?_,fun g k s=> ?_,fun g k=> ?_,fun g k s z=> ?_, .inl (by rw[e];exact L), .inl (by rw[e];exact I)⟩
  ·exfalso;rcases hh with⟨s, -⟩ | ⟨s, -⟩ | ⟨s,z,P⟩
   ·omega
   ·omega
   ·omega
  ·exfalso;rcases hh with⟨z, -⟩ | ⟨z, -⟩ | ⟨z,P,h6⟩
   ·omega
   ·omega
   ·rcases v with⟨a,b⟩ | ⟨a, -, -,b⟩
    ·rw[b]at P;exact s ⟨P,by omega⟩
    ·omega
  ·rcases v with⟨a,b⟩ | ⟨a, -⟩
   ·rw[e,b];exact⟨g, .inl rfl⟩
   ·omega
  ·rcases v with⟨a,b⟩ | ⟨a, -⟩
   ·rw[e,b];exact⟨g,rfl,rfl⟩
   ·omega
 | refuse hk ht e=>
  have w:T.out= [((f:Int),⟨4,S.bt,0,0,x.a,false,[],[]⟩)]:=by rw[e];show S.out++_=_;rw[C];rfl
  have q:T.role=S.role:=by rw[e]
  have B:T.lead=S.lead:=by rw[e]
  have V:T.bt=S.bt:=by rw[e]
  have A:T.ticks=S.ticks:=by rw[e]
  have U:T.line=S.line:=by rw[e]
  clear e;refine⟨p,by rw[q];exact D.imp id .inl,fun y d=> ?_,fun g k=>⟨_,by rw[w];exact List.mem_singleton.2 rfl,rfl,?_⟩,fun g k s=>by omega,fun g k=> ?_,fun g k s z=> ?_, .inl (A.trans L), .inl (U.trans I)⟩
  ·rw[w,List.mem_singleton]at d;subst d;exact⟨V.symm, .inr (.inl ⟨rfl,hk,rfl⟩)⟩
  ·show S.bt=R.bt;omega
  ·rcases v with⟨a,b⟩ | ⟨a, -⟩
   ·rw[q,B,b];exact⟨g, .inl rfl⟩
   ·omega
  ·rcases v with⟨a,b⟩ | ⟨a, -⟩
   ·rw[q,B,A,b];exact⟨g,rfl,rfl⟩
   ·omega
 | follow hk ht hr2 e=>
  have hL:∃o,pV (S.foll f) T o/\(o= []\/∃a y,o= [((f:Int),⟨4,(S.foll f).bt,a,0,x.a,y,[],[]⟩)]):=by
   rw[e];split
   ·obtain⟨o,g, -, -,k⟩:=fG (S.foll f) f x;exact⟨o,g,k⟩
   ·obtain⟨o,g, -, -,k⟩:=eW (S.foll f) f x;exact⟨o,g,k⟩
  obtain⟨o,r,M⟩:=hL;have q:T.role=0:=r.role;have B:T.lead=f:=r.lead;have A:T.ticks=0:=r.ticks;have w:T.out=o:=by rw[r.out];show S.out++o=o;rw[C];rfl
  clear e;refine⟨p, .inl q,fun y d=> ?_,fun g k=>by omega,fun g k s=>⟨q,B,A⟩,fun g k=>⟨q, .inr ⟨hk,by omega,B⟩⟩,fun g k s z=> ?_, .inr ⟨A, .inr (.inl ⟨hk,by omega⟩)⟩, .inr (.inl ⟨hk,by omega⟩)⟩
  ·rw[w]at d;rcases M with g | ⟨a,b,g⟩
   ·rw[g]at d;cases d
   ·rw[g,List.mem_singleton]at d;subst d;exact⟨r.bt.symm, .inr (.inl ⟨rfl,hk,rfl⟩)⟩
  ·rcases v with⟨a,b⟩ | ⟨a, -⟩
   ·rw[b]at hr2;exact absurd g hr2
   ·omega
 | got hk hr2 ht e=>
  obtain⟨o,r,F, -,J⟩:=re S f x;rw[<-e]at r F J;rcases v with⟨a,b⟩ | ⟨a, -, -,b⟩
  ·subst b;have w:T.out=o:=by rw[r.out,C];rfl
   refine⟨p, .inr (.inl ⟨r.role,a⟩),fun y d=> ?_,fun g k=>by omega,fun g=>by omega,fun g k=>by omega,fun g k s z=>⟨r.role.trans hr2,r.lead,r.ticks⟩, .inl r.ticks, .inl F⟩;rw[w]at d;rcases J with g | g
   ·rw[g]at d;cases d
   ·rw[g,List.mem_singleton]at d;subst d;have G:=ep T f;exact⟨G.2, .inr (.inr ⟨G.1,r.role.trans hr2, .inr hk⟩)⟩
  ·omega
end
section
variable {n i j k c m cc p : Nat} {A : AS} {f : Nat} {x : ax} {r : Nat -> aa} {l old new : List L3}
def eB(r:Nat->aa)(j:Nat)(R:aa):Nat->aa:=fun k=>if k=j then R else r k
theorem bB(r:Nat->aa)(j:Nat)(R:aa):eB r j R j=R:=if_pos rfl
theorem di(r:Nat->aa){j i:Nat}(R:aa)(h:i≠j):eB r j R i=r i:=if_neg h
def aQ(j:Nat)(T:aa):List L3:=T.out.map fun y=>(j,y.1.toNat,y.2)
abbrev han (r:Nat->aa) (f j:Nat) (x:ax):aa:=(r j).handle f x
abbrev db (r:Nat->aa) (f j:Nat) (x:ax):Nat->aa:=eB r j (bM (han r f j x))
theorem rx:(⟨r,(f,j,x)::l⟩:AS).del=⟨db r f j x,l++aQ j (han r f j x)⟩:=rfl
theorem Vw.he(h:Vw n k p ⟨r,(f,j,x)::l⟩):j<n/\f<n/\f≠j/\x.t<=(r f).bt/\HE (r j) j n f x (han r f j x):=by obtain⟨c,a,b⟩:=h.f _ List.mem_cons_self;exact⟨a,c,b,h.t _ List.mem_cons_self,uA (h.me j a) (h.nn j a) (h.out j a) c b (h.right _ List.mem_cons_self)⟩
theorem ig(h:Vw n k p ⟨r,(f,j,x)::l⟩)(i:Nat):(r i).bt<=(db r f j x i).bt:=by
 obtain⟨-, -, -, -,he⟩:=h.he;by_cases e:i=j
 ·subst e;show _<=(eB r i _ i).bt;rw[bB];show _<=(han r f i x).bt;rw[he.bt];omega
 ·show _<=(eB r j _ i).bt;rw[di _ _ e];exact Int.le_refl _
theorem iH(h:Vw n k p ⟨r,(f,j,x)::l⟩){T:Int}(hT:∀i,i<n->(r i).bt<=T):x.t<=T/\∀i,i<n->(db r f j x i).bt<=T:=by
 obtain⟨g,d,c,b,he⟩:=h.he;have m:=hT f d;refine⟨by omega,fun i a=> ?_⟩;by_cases e:i=j
 ·subst e;show(eB r i _ i).bt<=T;rw[bB];show(han r f i x).bt<=T;rw[he.bt];have:=hT i a;omega
 ·show(eB r j _ i).bt<=T;rw[di _ _ e];exact hT i a
theorem round(b:n<=5)(hm:m<=3990)(hp:p<=1900)(Q:List L3->List L3->(Nat->aa)->Prop)
 (a:∀f j x old new r,Vw n k p ⟨r,(f,j,x)::(old++new)⟩->Q ((f,j,x)::old) new r->Q old (new++aQ j (han r f j x)) (db r f j x)):
  ∀(old new:List L3) (r:Nat->aa) (cc:Nat),Kn n cc k p m ⟨r,old++new⟩->cc+old.length<=1000000->Q old new r->∃new' r',(⟨r,old++new⟩:AS).dels old.length=⟨r',new'⟩/\Q [] new' r'/\Kn n (cc+old.length) k p m ⟨r',new'⟩
 | [],new,r,cc,h,_,hQ=>⟨new,r,rfl,hQ,h⟩
 | (f,j,x)::old,new,r,cc,h,hc,hQ=>by
  simp only[List.length_cons]at hc;have c:=h.del b (by omega) hm hp;have e:(⟨r,((f,j,x)::old)++new⟩:AS).del=⟨db r f j x,old++(new++aQ j (han r f j x))⟩:=by rw[List.cons_append,rx,List.append_assoc]
  rw[e]at c;obtain⟨new',r',i,g,d⟩:=round b hm hp Q a old (new++aQ j (han r f j x)) (db r f j x) (cc+1) c (by omega) (a f j x old new r (h.vw b) hQ);refine⟨new',r',?_,g,?_⟩
  ·show((⟨r,((f,j,x)::old)++new⟩:AS).del).dels old.length=_;rw[e];exact i
  ·rw[show cc+((f,j,x)::old).length=cc+1+old.length by simp only[List.length_cons];omega];exact d
structure de (n L:Nat) (T t:Int) (r:Nat->aa):Prop where
 ln:L<n
 role:(r L).role=2
 bt:(r L).bt=T
 tk:(r L).ticks=t
 all:∀j,j<n->j≠L->(r j).bt=T/\(r j).role=0/\(r j).lead=L/\(r j).ticks<=t
theorem de.le{L:Nat}{T t:Int}(h:de n L T t r):∀j,j<n->(r j).bt<=T:=fun j a=>by
 by_cases e:j=L
 ·subst e;rw[h.bt];exact Int.le_refl _
 ·rw[(h.all j a e).1];exact Int.le_refl _
theorem lead_step(h:Vw n k p ⟨r,(f,j,x)::l⟩){L:Nat}{T t:Int}(m:L<n)(hT:∀i,i<n->(r i).bt<=T)(h1:(r L).role=2)(h2:(r L).bt=T)(h3:(r L).ticks=t):(db r f j x L).role=2/\(db r f j x L).bt=T/\(db r f j x L).ticks=t:=by
 obtain⟨o,g,c,d,he⟩:=h.he;have s:=hT f g;by_cases e:L=j
 ·subst e;show(eB r L _ L).role=2/\(eB r L _ L).bt=T/\(eB r L _ L).ticks=t;rw[bB];obtain⟨a, -,b⟩:=he.ldr h1 (by omega) ((h.q L m).bf (by rw[h1];decide)) c;refine⟨a,?_,b.trans h3⟩;show(han r f L x).bt=T;rw[he.bt];omega
 ·show(eB r j _ L).role=2/\(eB r j _ L).bt=T/\(eB r j _ L).ticks=t;rw[di _ _ e];exact⟨h1,h2,h3⟩
theorem kW(h:Vw n k p ⟨r,(f,j,x)::l⟩){L:Nat}{T t:Int}(v:L<n)(hT:∀i,i<n->(r i).bt<=T)(h1:(r L).role=2)(h2:(r L).bt=T)(ht:0<=t)(hi:i<n)(h3:(r i).bt=T/\(r i).role=0/\(r i).lead=L/\(r i).ticks<=t):
  (db r f j x i).bt=T/\(db r f j x i).role=0/\(db r f j x i).lead=L/\(db r f j x i).ticks<=t:=by
 obtain⟨A,s,q,o,he⟩:=h.he;obtain⟨m,g,d,c⟩:=h3;have B:=hT f s;by_cases e:i=j
 ·subst e;show(eB r i _ i).bt=T/\(eB r i _ i).role=0/\(eB r i _ i).lead=L/\(eB r i _ i).ticks<=t;rw[bB];obtain⟨z,a⟩:=he.stay g (by omega);refine⟨?_,z,?_,?_⟩
  ·show(han r f i x).bt=T;rw[he.bt];omega
  ·show(han r f i x).lead=L;rcases a with a | ⟨a,y,w⟩
   ·rw[a];exact d
   ·have:=h.led _ List.mem_cons_self a L v h1 (by rw[h2,<-m];exact y.symm);have:f=L:=this;rw[w,this]
  ·show(han r f i x).ticks<=t;rcases he.tk with b | ⟨b, -⟩
   ·rw[b];exact c
   ·rw[b];exact ht
 ·show(eB r j _ i).bt=T/\(eB r j _ i).role=0/\(eB r j _ i).lead=L/\(eB r j _ i).ticks<=t;rw[di _ _ e];exact⟨m,g,d,c⟩
theorem de.t0{L:Nat}{T t:Int}(h:de n L T t r)(hv:Vw n k p ⟨r,l⟩):0<=t:=by rw[<-h.tk];exact(hv.ok L h.ln).tk0
theorem de.step{L:Nat}{T t:Int}(h:de n L T t r)(hv:Vw n k p ⟨r,(f,j,x)::l⟩):de n L T t (db r f j x):=by obtain⟨d,c,b⟩:=lead_step hv h.ln h.le h.role h.bt h.tk;exact⟨h.ln,d,c,b,fun i a e=>kW hv h.ln h.le h.role h.bt (h.t0 hv) a (h.all i a e)⟩
theorem de.dels{L:Nat}{T t:Int}(a:n<=5)(hm:m<=3990)(hp:p<=1900):∀(d:Nat) (A:AS) (cc:Nat),Kn n cc k p m A->cc+d<=1000000->de n L T t A.r->de n L T t (A.dels d).r
 | 0,A,cc,_,_,h=>h
 | d+1,A,cc,hl,hc,h=>by
  refine de.dels a hm hp d A.del (cc+1) (hl.del a (by omega) hm hp) (by omega) ?_;obtain⟨r,b⟩:=A;cases b with
  | nil=>exact h
  | cons y l=>obtain⟨f,j,x⟩:=y;exact h.step (hl.vw a)
theorem Kn.dels(a:n<=5)(hm:m<=3990)(hp:p<=1900):∀(d:Nat) (A:AS) (cc:Nat),Kn n cc k p m A->cc+d<=1000000->Kn n (cc+d) k p m (A.dels d)
 | 0,A,cc,h,_=>h
 | d+1,A,cc,h,hc=>by have b:=Kn.dels a hm hp d A.del (cc+1) (h.del a (by omega) hm hp) (by omega);rw[show cc+(d+1)=cc+1+d by omega];exact b
theorem bZ:∀(a b:Nat) (A:AS),A.dels (a+b)=(A.dels a).dels b
 | 0,b,A=>by rw[Nat.zero_add];rfl
 | a+1,b,A=>by rw[show a+1+b=(a+b)+1 by omega];exact bZ a b A.del
theorem join(G:n<=5)(hm:m<=3990)(hp:p<=1900){L:Nat}{T t:Int}{r:Nat->aa}{ls:List L3}(h:Kn n cc k p m ⟨r,ls⟩)(hc:cc+ls.length<=1000000)(hL:L<n)(hT:∀i,i<n->(r i).bt<=T)(h1:(r L).role=2)(h2:(r L).bt=T)(h3:(r L).ticks=t)
 (s:∀j,j<n->j≠L->∃x,(L,j,x)∈ls/\(x.k=3\/x.k=5)/\x.t=T):de n L T t ((⟨r,ls⟩:AS).dels ls.length).r:=by
 have C:0<=t:=by rw[<-h3];exact((h.vw G).ok L hL).tk0
 have N:Kn n cc k p m ⟨r,ls++ []⟩:=by rw[List.append_nil];exact h
 obtain⟨B,X,H,W,a3⟩:=round G hm hp (fun l new r=>(∀i,i<n->(r i).bt<=T)/\(r L).role=2/\(r L).bt=T/\(r L).ticks=t/\∀j,j<n->j≠L->((r j).bt=T/\(r j).role=0/\(r j).lead=L/\(r j).ticks<=t)\/∃x,(L,j,x)∈l/\(x.k=3\/x.k=5)/\x.t=T)
  (fun f j x l new r o M=>by
   obtain⟨g,e,c,A,z⟩:=M;obtain⟨w,Y,J,I,he⟩:=o.he;obtain⟨V,U,S⟩:=lead_step o hL g e c A;refine⟨(iH o g).2,V,U,S,fun i y q=> ?_⟩;rcases z i y q with a | ⟨v,a,F,D⟩
   ·exact .inl (kW o hL g e c C y a)
   ·rcases List.mem_cons.1 a with a | a
    ·injection a with e1 e2;injection e2 with e2 e3;subst e1 e2 e3
     left
     have Z:=g i y;obtain⟨c1,c2,c3⟩:=he.fol F (by omega) (fun d=>by
      obtain⟨R,P⟩:=d;have O:(r i).bt=(r L).bt:=by rw[P,c];exact D
      exact q (o.one i L y hL R e O))
     show(eB r i _ i).bt=T/\(eB r i _ i).role=0/\(eB r i _ i).lead=L/\(eB r i _ i).ticks<=t;rw[bB];refine⟨?_,c1,c2,by show(han r L i v).ticks<=t;rw[c3];exact C⟩;show(han r L i v).bt=T;rw[he.bt];omega
    ·exact .inr ⟨v,a,F,D⟩) ls [] r cc N hc ⟨hT,h1,h2,h3,fun j w b=> .inr (s j w b)⟩
 rw[List.append_nil]at H;rw[H];obtain⟨g,e,c,A,z⟩:=W;refine⟨hL,e,c,A,fun j w b=> ?_⟩;rcases z j w b with a | ⟨v,a, -⟩
 ·exact a
 ·cases a
theorem qK{T:aa}{y:dg}(h:y∈T.out):(j,y.1.toNat,y.2)∈aQ j T:=List.mem_map.2 ⟨y,h,rfl⟩
theorem told(I:n<=5)(hm:m<=3990)(hp:p<=1900){V:Int}{u q:Nat}{x0:ax}{r:Nat->aa}{ls:List L3}(h:Kn n cc k p m ⟨r,ls⟩)(h0:(u,q,x0)∈ls)(hk0:x0.k=1\/x0.k=3\/x0.k=5)(ht:x0.t<V)(hV:V<=(r q).bt)
 {s H:Nat->aa}{l J:List L3}(G:(⟨r,ls⟩:AS).dels ls.length=⟨s,l⟩)(e2:(⟨s,l⟩:AS).dels l.length=⟨H,J⟩)(hc:cc+ls.length+l.length<=1000000):V<=(H u).bt:=by
 have F:Kn n cc k p m ⟨r,ls++ []⟩:=by rw[List.append_nil];exact h
 obtain⟨W,T,w,R,P⟩:=round I hm hp (fun b new r=>V<=(r u).bt\/(∃y∈b++new,y.2.1=u/\V<=y.2.2.t)\/((u,q,x0)∈b/\V<=(r q).bt))
  (fun f j x b new r o g=>by
   obtain⟨L,M,A,z,he⟩:=o.he;rcases g with g | ⟨y,i,d,a⟩ | ⟨g,B⟩
   ·exact .inl (Int.le_trans g (ig o u))
   ·rw[List.cons_append]at i;rcases List.mem_cons.1 i with e | i
    ·subst e;have e:j=u:=d;subst e
     left
     show V<=(eB r j _ j).bt;rw[bB];show V<=(han r f j x).bt;rw[he.bt];have a:V<=x.t:=a;omega
    ·right;left
     refine⟨y,?_,d,a⟩;rw[<-List.append_assoc];exact List.mem_append_left _ i
   ·rcases List.mem_cons.1 g with e | g
    ·injection e with G e2;injection e2 with e2 e3;subst G e2 e3;obtain⟨y,c,C,X⟩:=he.dep (by omega) hk0
     right;left
     refine⟨(q,y.1.toNat,y.2),List.mem_append_right _ (List.mem_append_right _ (qK c)),?_,?_⟩
     ·show y.1.toNat=u;rw[C];omega
     ·show V<=y.2.t;omega
    ·exact .inr (.inr ⟨g,Int.le_trans B (ig o q)⟩)) ls [] r cc F (by omega) (.inr (.inr ⟨h0,hV⟩))
 rw[List.append_nil,G]at w;injection w with w a4;subst w a4;have D:Kn n (cc+ls.length) k p m ⟨s,l++ []⟩:=by rw[List.append_nil];exact P
 have N:V<=(s u).bt\/∃y∈l,y.2.1=u/\V<=y.2.2.t:=by
  rcases R with c | ⟨y,c,C⟩ | ⟨c, -⟩
  ·exact .inl c
  ·rw[List.nil_append]at c;exact .inr ⟨y,c,C⟩
  ·cases c
 obtain⟨U,S,v,O,Y⟩:=round I hm hp (fun b new r=>V<=(r u).bt\/∃y∈b,y.2.1=u/\V<=y.2.2.t)
  (fun f j x b new r o g=>by
   obtain⟨L,M,A,z,he⟩:=o.he;rcases g with g | ⟨y,i,d,a⟩
   ·exact .inl (Int.le_trans g (ig o u))
   ·rcases List.mem_cons.1 i with e | i
    ·subst e;have e:j=u:=d;subst e
     left
     show V<=(eB r j _ j).bt;rw[bB];show V<=(han r f j x).bt;rw[he.bt];have a:V<=x.t:=a;omega
    ·exact .inr ⟨y,i,d,a⟩) l [] s (cc+ls.length) D (by omega) N
 rw[List.append_nil,e2]at v;injection v with v b4;subst v b4;rcases O with c | ⟨y,c, -⟩
 ·exact c
 ·cases c
end
inductive TC (R:aa) (j n:Nat) (T:aa):Prop
 | beat (hr:R.role=2) (ht:4<=R.ticks+1) (e:T={ R with ticks:=0,out:=(bh n j).map fun i:Nat=>((i:Int),({ R with ticks:=0 }:aa).nextL i) })
 | stand (hr:R.role≠2) (ht:20+2*(j:Int)<=R.ticks+1) (nw:List (List UInt8)) (e:T={ R with ticks:=0,bt:=R.bt+1,bf:=j,news:=nw,role:=1,lead:= -1,votes:=aW.set j 1,out:=(bh n j).map fun i:Nat=>((i:Int),({ R with bt:=R.bt+1 }:aa).askL) })
 | wait (hl:R.role=2->¬ 4<=R.ticks+1) (hf:R.role≠2->¬ 20+2*(j:Int)<=R.ticks+1) (e:T={ R with ticks:=R.ticks+1 })
section
variable {n i j k c m cc p : Nat} {A : AS} {R : aa} {f : Nat} {x : ax} {r : Nat -> aa} {l old new : List L3}
theorem mF(j:Nat)(h:j<7):ef (aW.set j 1)=1:=by
 match j,h with
 | 0,_=>rfl
 | 1,_=>rfl
 | 2,_=>rfl
 | 3,_=>rfl
 | 4,_=>rfl
 | 5,_=>rfl
 | 6,_=>rfl
theorem jo(b:R.me=j)(hn:R.n=n)(ho:R.out= [])(hj:j<n)(h2:2<=n)(h5:n<=5)(hb:R.bt<1099511627776):TC R j n R.tick:=by
 unfold aa.tick;simp only;split
 ·rename_i h
  rw[iV (R:={ R with ticks:=0 }) b hn];refine .beat h.1 h.2 ?_;simp only[ho,List.nil_append]
 ·rename_i h
  split
  ·rename_i a
   rw[mI (R:={ R with ticks:=R.ticks+1 }) b hn (by show R.bt<_;omega)];refine .stand a.1 (by have:=a.2;omega) (R.news++ [bT (R.bt+1) j]) ?_;unfold aa.count;simp only[Int.toNat_natCast];rw[if_neg]
   ·simp only[ho,List.nil_append];rfl
   ·rw[mF j (by omega)];show ¬bD R.n<=1;unfold bD;rw[hn,if_neg (by omega)];omega
  ·rename_i a
   exact .wait (fun e c=>h ⟨e,c⟩) (fun e c=>a ⟨e,by omega⟩) rfl
theorem jU:∀k,AS.ticks k A=⟨fun j=>if j<k then bM (A.r j).tick else A.r j,A.ls++(List.range k).flatMap fun j=>aQ j (A.r j).tick⟩
 | 0=>by simp[AS.ticks]
 | k+1=>by
  show(AS.ticks k A).tick1 k=_;rw[jU k];unfold AS.tick1 AS.put;simp only[Nat.lt_irrefl,if_false]
  congr 1
  ·funext j;by_cases e:j=k
   ·subst e;simp
   ·by_cases a:j<k
    ·rw[if_neg e,if_pos a,if_pos (by omega)]
    ·rw[if_neg e,if_neg a,if_neg (by omega)]
  ·rw[List.range_succ,List.flatMap_append,List.append_assoc];simp[aQ]
theorem Kn.ticks(a:n<=5)(hm:m+10<=3990)(hk:k+5<=1000000)(hp:p+5<=1900)(hc:cc+5<=1000000)(h:Kn n cc k p m A):∀d,d<=n->Kn n (cc+d) (k+d) (p+d) (m+2*d) (AS.ticks d A)
 | 0,_=>h
 | d+1,hd=>by have b:=Kn.ticks a hm hk hp hc h d (by omega);exact b.tick1 a (by omega) (by omega) (by omega) (by omega) hd
theorem kI{y:L3}:y∈(AS.ticks n A).ls↔y∈A.ls\/∃j,j<n/\y∈aQ j (A.r j).tick:=by rw[jU];simp[List.mem_append,List.mem_flatMap]
theorem gy(a:j<n):(AS.ticks n A).r j=bM (A.r j).tick:=by rw[jU];exact if_pos a
theorem iq:∀(d:Nat) {A:AS},A.ls= []->A.dels d=A
 | 0,_,_=>rfl
 | d+1,A,h=>by
  have e:A.del=A:=by unfold AS.del;rw[h]
  show A.del.dels d=A;rw[e];exact iq d h
theorem oE(b:Nat):∀(l:List aa),(∀x∈l,dl x<=b)->(l.map dl).sum<=b*l.length
 | [],_=>by simp
 | x::l,h=>by have d:=oE b l (fun y a=>h y (List.mem_cons_of_mem _ a));have c:=h x List.mem_cons_self;simp only[List.map_cons,List.sum_cons,List.length_cons,Nat.mul_add];omega
theorem Kn.rebase(h:Kn n cc k p m A)(h5:n<=5)(hl:A.ls= []):Kn n cc k 160 m A:=by
 obtain⟨g,G,a,b,d,e⟩:=h;refine⟨g,G,a,b,⟨d.len,d.nl,d.rs,?_⟩,e⟩;have s:G.bag= []:=by rw[b.bag,hl];rfl
 have r:=oE 31 G.rs (fun x i=>by
  obtain⟨j,c⟩:=List.mem_iff_getElem?.1 i;obtain⟨-, -, -, -,q⟩:=d.rs j x c;have l:j<n:=by rw[<-d.len];exact(List.getElem?_eq_some_iff.1 c).1
  have f:=q.tl;have o:=q.tf;unfold dl;by_cases e:x.role=2
  ·have:=f e;split<;>omega
  ·have:=o e;split<;>omega)
 rw[s,List.length_nil,Nat.zero_add];rw[d.len]at r;have f:31*n<=31*5:=Nat.mul_le_mul_left _ h5;omega
def yY(n j:Nat)(A:AS):Prop:=∀i,i<n->i≠j->∃x,(j,i,x)∈A.ls/\x.k=1/\x.t=(A.r j).bt
def wP(n j:Nat)(A:AS):Prop:=∀i,i<n->i≠j->∃x,(j,i,x)∈A.ls/\(x.k=3\/x.k=5)/\x.t=(A.r j).bt
structure TK (n:Nat) (A B:AS) (S:Nat->Prop):Prop where
 st:∀j,j<n->S j->(A.r j).role≠2/\20+2*(j:Int)<=(A.r j).ticks+1/\(B.r j).role=1/\(B.r j).bt=(A.r j).bt+1/\(B.r j).ticks=0/\(B.r j).line=(A.r j).line/\(B.r j).bf=j/\(B.r j).votes=aW.set j 1/\yY n j B
 ns:∀j,j<n->¬S j->(B.r j).role=(A.r j).role/\(B.r j).bt=(A.r j).bt/\(B.r j).line=(A.r j).line/\(B.r j).bf=(A.r j).bf/\(B.r j).lead=(A.r j).lead/\(((B.r j).ticks=(A.r j).ticks+1/\((A.r j).role≠2->(A.r j).ticks+1<20+2*j))\/((A.r j).role=2/\(B.r j).ticks=0/\wP n j B))
 mem:∀y∈B.ls,y∈A.ls\/(y.2.2.k=1/\S y.1/\y.2.2.t=(B.r y.1).bt/\y.2.2.a=(A.r y.1).line.last/\y.2.2.u=(bk (A.r y.1).line (A.r y.1).line.last).1)\/((y.2.2.k=3\/y.2.2.k=5)/\(A.r y.1).role=2/\¬S y.1/\y.2.2.t=(B.r y.1).bt)
 old:∀y∈A.ls,y∈B.ls
def aD(n:Nat)(A:AS)(j:Nat):Prop:=j<n/\(A.r j).role≠2/\20+2*(j:Int)<=(A.r j).ticks+1
theorem jR(o:Vw n k p A)(h2:2<=n)(hk:k<1099511627776):TK n A (AS.ticks n A) (aD n A):=by
 have m:∀j,j<n->TC (A.r j) j n (A.r j).tick:=fun j a=>jo (o.me j a) (o.nn j a) (o.out j a) a h2 o.n5 (by have:=(o.q j a).bt;omega)
 have s:∀j,j<n->∀(g:Nat->ax),(A.r j).tick.out=(bh n j).map (fun i:Nat=>((i:Int),g i))->∀i,i<n->i≠j->(j,i,g i)∈(AS.ticks n A).ls:=fun j a g e i v b=>by
  rw[kI]
  right
  refine⟨j,a,?_⟩;unfold aQ;rw[e,List.map_map];exact List.mem_map.2 ⟨i,cd.2 ⟨v,b⟩,by simp⟩
 refine⟨fun j a w=> ?_,fun j a w=> ?_,fun y f=> ?_,fun y f=>kI.2 (.inl f)⟩
 ·rw[gy a];have l:=m j a;have c:=s j a;generalize hT:(A.r j).tick=T at l c;cases l with
  | beat hr ht e=>exact absurd hr w.2.1
  | stand hr ht nw e=>refine⟨hr,ht,by rw[e];rfl,by rw[e];rfl,by rw[e];rfl,by rw[e];rfl,by rw[e];rfl,by rw[e];rfl,fun i v b=>⟨_,c _ (by rw[e]) i v b,rfl,?_⟩⟩;rw[gy a,hT,e];rfl
  | wait hl hf e=>exact absurd w.2.2 (hf w.2.1)
 ·rw[gy a];have l:=m j a;have c:=s j a;generalize hT:(A.r j).tick=T at l c;cases l with
  | beat hr ht e=>refine⟨by rw[e];rfl,by rw[e];rfl,by rw[e];rfl,by rw[e];rfl,by rw[e];rfl, .inr ⟨hr,by rw[e];rfl,fun i v b=>⟨_,c _ (by rw[e]) i v b,(ep _ i).1,?_⟩⟩⟩;rw[gy a,hT,e];exact(ep _ i).2
  | stand hr ht nw e=>exact absurd ⟨a,hr,ht⟩ w
  | wait hl hf e=>refine⟨by rw[e];rfl,by rw[e];rfl,by rw[e];rfl,by rw[e];rfl,by rw[e];rfl, .inl ⟨by rw[e];rfl,fun x=> ?_⟩⟩;have:=hf x;omega
 ·rw[kI]at f;rcases f with f | ⟨j,a,f⟩
  ·exact .inl f
  ·right
   unfold aQ at f;obtain⟨z,d,rfl⟩:=List.mem_map.1 f;have l:=m j a;show(z.2.k=1/\aD n A j/\z.2.t=((AS.ticks n A).r j).bt/\_)\/(_/\(A.r j).role=2/\¬aD n A j/\z.2.t=((AS.ticks n A).r j).bt)
   rw[gy a];generalize (A.r j).tick=T at l d;cases l with
   | beat hr ht e=>rw[e]at d;obtain⟨i, -,rfl⟩:=List.mem_map.1 d;exact .inr ⟨(ep _ i).1,hr,fun h=>h.2.1 hr,by rw[e];exact(ep _ i).2⟩
   | stand hr ht nw e=>rw[e]at d;obtain⟨i, -,rfl⟩:=List.mem_map.1 d;exact .inl ⟨rfl,⟨a,hr,ht⟩,by rw[e];rfl,rfl,rfl⟩
   | wait hl hf e=>rw[e]at d;have d:z∈(A.r j).out:=d;rw[o.out j a]at d;cases d
end
section
variable {n i j k c m cc p : Nat} {A B : AS} {R : aa} {f : Nat} {x : ax} {r : Nat -> aa} {l old new : List L3} {S : Nat -> Prop}
theorem pJ(s:R.me=j)(hn:R.n=n)(ho:R.out= [])(hf:f<n)(hfj:f≠j)(hr:aO x=true)(h0:R.role≠2)(h2:(R.handle f x).role=2):
  x.k=2/\(R.handle f x).ticks=0/\(R.handle f x).lead=j/\∀i,i<n->i≠j->∃x',((i:Int),x')∈(R.handle f x).out/\(x'.k=3\/x'.k=5)/\x'.t=(R.handle f x).bt:=by
 have v:HS R (R.stepUp x.t) j n x:=vJ s hn ho;have h:=cR s hn hf hfj hr;generalize R.stepUp x.t=S at h v;generalize R.handle f x=T at h h2;obtain⟨z,y,G,F,D,w⟩:=v;have d:S.role≠2:=by
  rcases w with⟨a,b⟩ | ⟨a, -, -,b⟩
  ·rw[b];exact h0
  ·rw[b];decide
 cases h with
 | ask yes A hk hy e=>rw[e]at h2;exact absurd h2 d
 | vote hk hr1 ht hy e=>
  rcases fU z y f with⟨-,g⟩ | ⟨-,l,A,m,c,p,J,I,g,C⟩
  ·rw[e,g]at h2;have h2:S.role=2:=h2;exact absurd h2 d
  ·rw[C]at e;refine⟨hk,by rw[e,g],by rw[e,g],fun i B q=>⟨p.nextL i,?_,(ep p i).1,?_⟩⟩
   ·rw[e];show _∈S.out++(bh n j).map fun i:Nat=>((i:Int),p.nextL i)
    exact List.mem_append_right _ (List.mem_map.2 ⟨i,cd.2 ⟨B,q⟩,rfl⟩)
   ·rw[(ep p i).2,e]
 | still e hh=>rw[e]at h2;exact absurd h2 d
 | refuse hk ht e=>rw[e]at h2;exact absurd h2 d
 | follow hk ht hr2 e=>
  have H:T.role=0:=by
   rw[e];split
   ·obtain⟨o,r, -⟩:=fG (S.foll f) f x;exact r.role
   ·obtain⟨o,r, -⟩:=eW (S.foll f) f x;exact r.role
  omega
 | got hk hr2 ht e=>exact absurd hr2 d
theorem Vw.leads(h:Vw n k p ⟨r,(f,j,x)::l⟩)(h0:(r j).role≠2)(h2:(han r f j x).role=2):x.k=2/\(han r f j x).ticks=0/\(han r f j x).lead=j/\∀i,i<n->i≠j->∃x',(j,i,x')∈aQ j (han r f j x)/\(x'.k=3\/x'.k=5)/\x'.t=(han r f j x).bt:=by obtain⟨s,g,q⟩:=h.f _ List.mem_cons_self;obtain⟨a,b,c,d⟩:=pJ (h.me j g) (h.nn j g) (h.out j g) s q (h.right _ List.mem_cons_self) h0 h2;refine⟨a,b,c,fun i m e=> ?_⟩;obtain⟨x',y,w,v⟩:=d i m e;have o:=qK (j:=j) y;exact⟨x',by simpa using o,w,v⟩
theorem vk{T:aa}{y:L3}(h:y∈aQ j T):y.1=j/\∃z∈T.out,y.2.1=z.1.toNat/\y.2.2=z.2:=by unfold aQ at h;obtain⟨z,a,rfl⟩:=List.mem_map.1 h;exact⟨rfl,z,a,rfl,rfl⟩
theorem ev(a:n<=5)(hm:m<=3990)(hp:p<=1900)(P:(Nat->aa)->List L3->Prop)(hst:∀f j x l r,Vw n k p ⟨r,(f,j,x)::l⟩->P r ((f,j,x)::l)->P (db r f j x) (l++aQ j (han r f j x))):
  ∀(d:Nat) (A:AS) (cc:Nat),Kn n cc k p m A->cc+d<=1000000->P A.r A.ls->P (A.dels d).r (A.dels d).ls
 | 0,A,cc,_,_,h=>h
 | d+1,A,cc,hl,hc,h=>by
  refine ev a hm hp P hst d A.del (cc+1) (hl.del a (by omega) hm hp) (by omega) ?_;obtain⟨r,ls⟩:=A;cases ls with
  | nil=>exact h
  | cons y l=>obtain⟨f,j,x⟩:=y;exact hst f j x l r (hl.vw a) h
theorem fy(h:Vw n k p ⟨r,(f,j,x)::l⟩)(hi:i<n)(h2:(db r f j x i).role=2):((r i).role=2/\(db r f j x i).ticks=(r i).ticks/\(db r f j x i).bt=(r i).bt)\/(i=j/\(r i).role≠2/\x.k=2/\(db r f j x i).ticks=0/\(db r f j x i).bt=(r i).bt/\∀q,q<n->q≠i->∃x',(i,q,x')∈aQ j (han r f j x)/\(x'.k=3\/x'.k=5)/\x'.t=(db r f j x i).bt):=by
 obtain⟨w,y,m,s,he⟩:=h.he;by_cases e:i=j
 ·subst e;have o:db r f i x i=bM (han r f i x):=bB _ _ _;rw[o]at h2 ⊢;have h2:(han r f i x).role=2:=h2;by_cases g:(r i).role=2
  ·left
   have v:x.t<=(r i).bt:=by
    rcases he.role with c | ⟨-,c⟩ | ⟨-,c, -⟩
    ·omega
    ·exact c
    ·omega
   obtain⟨-, -,b⟩:=he.ldr g v ((h.q i hi).bf (by rw[g];decide)) m;exact⟨g,b,by show(han r f i x).bt=_;rw[he.bt];omega⟩
  ·right
   obtain⟨a,b, -,d⟩:=h.leads g h2;refine⟨rfl,g,a,b,?_,d⟩;show(han r f i x).bt=_;rw[he.bt];rcases he.role with c | ⟨c, -⟩ | ⟨-, -,c, -⟩
   ·omega
   ·omega
   ·omega
 ·have o:db r f j x i=r i:=di _ _ e;rw[o]at h2 ⊢;exact .inl ⟨h2,rfl,rfl⟩
theorem kF(g:Vw n k p ⟨r,(f,j,x)::l⟩)(hi:i<n){b:Int}(h:(r i).role=0\/(r i).bt=b):(db r f j x i).role=0\/(db r f j x i).bt=b:=by
 obtain⟨q,s,m,d,he⟩:=g.he;by_cases e:i=j
 ·subst e;have c:db r f i x i=bM (han r f i x):=bB _ _ _;rw[c];show(han r f i x).role=0\/(han r f i x).bt=b;rcases he.role with a | ⟨a,o⟩ | ⟨a,o,t, -⟩
  ·exact .inl a
  ·rcases h with h | h
   ·exact .inl (a.trans h)
   ·right;rw[he.bt];omega
  ·rcases h with h | h
   ·omega
   ·right;rw[he.bt];omega
 ·have c:db r f j x i=r i:=di _ _ e;rw[c];exact h
theorem cT(m:Vw n k p ⟨r,(f,j,x)::l⟩){y:L3}(h:y∈aQ j (han r f j x)):y.1=j/\y.2.2.t=(han r f j x).bt/\((y.2.2.k=2/\x.k=1/\y.2.1=f)\/(y.2.2.k=4/\(x.k=3\/x.k=5)/\y.2.1=f)\/((y.2.2.k=3\/y.2.2.k=5)/\(han r f j x).role=2/\(x.k=2\/x.k=4))):=by
 obtain⟨w,A,o,i,he⟩:=m.he;obtain⟨v,z,g,e,s⟩:=vk h;obtain⟨q,c⟩:=he.out z g;rw[s];refine⟨v,q,?_⟩;rcases c with⟨a,b,d⟩ | ⟨a,b,d⟩ | c
 ·exact .inl ⟨a,b,by rw[e,d];omega⟩
 ·exact .inr (.inl ⟨a,b,by rw[e,d];omega⟩)
 ·exact .inr (.inr c)
structure zn (n:Nat) (A B:AS) (S:Nat->Prop) (r2:Nat->aa) (l2:List L3):Prop where
 kd:∀y∈l2,y.2.2.k≠1/\y.2.2.k≠2
 z:∀j,j<n->(r2 j).role=0\/(r2 j).bt=(B.r j).bt
 ld:∀j,j<n->(r2 j).role=2->((B.r j).role=2/\(r2 j).ticks=(B.r j).ticks)\/(S j/\∀i,i<n->i≠j->∃x,(j,i,x)∈l2/\(x.k=3\/x.k=5)/\x.t=(r2 j).bt)
 mono:∀j,j<n->(B.r j).bt<=(r2 j).bt
theorem mA(M:n<=5)(hm:m<=3990)(hp:p<=1900)(hB:Kn n cc k p m B)(hc:cc+4000<=1000000)(ht:TK n A B S)(hN:∀y∈A.ls,y.2.2.k≠1/\y.2.2.k≠2):
  ∃r1 l1 r2 l2,B.dels B.ls.length=⟨r1,l1⟩/\(⟨r1,l1⟩:AS).dels l1.length=⟨r2,l2⟩/\Kn n (cc+B.ls.length) k p m ⟨r1,l1⟩/\Kn n (cc+B.ls.length+l1.length) k p m ⟨r2,l2⟩/\zn n A B S r2 l2:=by
 obtain⟨l,I⟩:=B;have hb0:I.length<=p:=(hB.vw M).bag;have h0:Kn n cc k p m ⟨l,I++ []⟩:=by rw[List.append_nil];exact hB
 obtain⟨l1,r1,a1,a2,a3⟩:=round M hm hp (fun g new r=>(∀y∈g,y.2.2.k≠2/\(y.2.2.k=1->S y.1))/\(∀y∈new,y.2.2.k≠1/\(y.2.2.k=2->S y.2.1))/\(∀j,j<n->(r j).role=0\/(r j).bt=(l j).bt)/\(∀j,j<n->(r j).role=2->(l j).role=2/\(r j).ticks=(l j).ticks)/\∀j,j<n->(l j).bt<=(r j).bt)
  (fun f j x g new r s T=>by
   obtain⟨H,G,F,D,C⟩:=T;obtain⟨P,O⟩:=H _ List.mem_cons_self;refine⟨fun y a=>H y (List.mem_cons_of_mem _ a),fun y a=> ?_,fun i d=>kF s d (F i d),fun i d U=> ?_,fun i d=>Int.le_trans (C i d) (ig s i)⟩
   ·rcases List.mem_append.1 a with a | a
    ·exact G y a
    ·obtain⟨o,v,c⟩:=cT s a;rcases c with⟨c,z,Z⟩ | ⟨c, -⟩ | ⟨c, -⟩
     ·exact⟨by omega,fun _=>by rw[Z];exact O z⟩
     ·exact⟨by omega,fun e=>by omega⟩
     ·exact⟨by omega,fun e=>by omega⟩
   ·rcases fy s d U with⟨o,v, -⟩ | ⟨-, -,b, -⟩
    ·obtain⟨c,z⟩:=D i d o;exact⟨c,v.trans z⟩
    ·exact absurd b P) I [] l cc h0 (by omega) ⟨fun y a=>by
   rcases ht.mem y a with L | ⟨L,h7, -⟩ | ⟨L, -⟩
   ·exact⟨(hN y L).2,fun e=>absurd e (hN y L).1⟩
   ·exact⟨by omega,fun _=>h7⟩
   ·exact⟨by omega,fun e=>by omega⟩,fun y a=>(by cases a),fun j J=> .inr rfl,fun j J h=>⟨h,rfl⟩,fun j J=>Int.le_refl _⟩
 rw[List.append_nil]at a1;obtain⟨-,G,F,D,C⟩:=a2;have hb1:l1.length<=p:=(a3.vw M).bag;have V:Kn n (cc+I.length) k p m ⟨r1,l1++ []⟩:=by rw[List.append_nil];exact a3
 obtain⟨l2,r2,o,v,c⟩:=round M hm hp (fun g new r=>(∀y∈g,y.2.2.k≠1/\(y.2.2.k=2->S y.2.1))/\(∀y∈new,y.2.2.k≠1/\y.2.2.k≠2)/\(∀j,j<n->(r j).role=0\/(r j).bt=(l j).bt)/\(∀j,j<n->(r j).role=2->((l j).role=2/\(r j).ticks=(l j).ticks)\/(S j/\∀i,i<n->i≠j->∃x,(j,i,x)∈new/\(x.k=3\/x.k=5)/\x.t=(r j).bt))/\∀j,j<n->(l j).bt<=(r j).bt)
  (fun f j x g new r s T=>by
   obtain⟨H,G,F,D,C⟩:=T;obtain⟨P,O⟩:=H _ List.mem_cons_self;refine⟨fun y a=>H y (List.mem_cons_of_mem _ a),fun y a=> ?_,fun i d=>kF s d (F i d),fun i d U=> ?_,fun i d=>Int.le_trans (C i d) (ig s i)⟩
   ·rcases List.mem_append.1 a with a | a
    ·exact G y a
    ·obtain⟨o,v,c⟩:=cT s a;rcases c with⟨c,z,Z⟩ | ⟨c, -⟩ | ⟨c, -⟩
     ·exact absurd z P
     ·exact⟨by omega,by omega⟩
     ·exact⟨by omega,by omega⟩
   ·rcases fy s d U with⟨o,v,c⟩ | ⟨o,v,c,z,Z,b6⟩
    ·rcases D i d o with⟨c1,c2⟩ | ⟨c1,c2⟩
     ·exact .inl ⟨c1,v.trans c2⟩
     ·refine .inr ⟨c1,fun q R w=> ?_⟩;obtain⟨N,Y,X,W⟩:=c2 q R w;exact⟨N,List.mem_append_left _ Y,X,by rw[c];exact W⟩
    ·right
     refine⟨by rw[o];exact O c,fun q R w=> ?_⟩;obtain⟨N,Y,X,W⟩:=b6 q R w;exact⟨N,List.mem_append_right _ Y,X,W⟩) l1 [] r1 (cc+I.length) V (by omega) ⟨G,fun y a=>(by cases a),F,fun j J h=> .inl (D j J h),C⟩
 rw[List.append_nil]at o;obtain⟨-,c2,c3,c4,c5⟩:=v;exact⟨r1,l1,r2,l2,a1,o,a3,c,⟨c2,c3,c4,c5⟩⟩
end
section
variable {n i j k c m cc p N : Nat} {A B : AS} {R : aa} {f : Nat} {x : ax} {r : Nat -> aa} {l old new : List L3} {S : Nat -> Prop}
def AS.fair1(N n:Nat)(A:AS):AS:=(AS.ticks n A).dels N
def ga(n:Nat)(A:AS):Prop:=∃L T t,de n L T t A.r
theorem ga.dels(a:n<=5)(hm:m<=3990)(hp:p<=1900)(d:Nat)(A:AS)(cc:Nat)(hl:Kn n cc k p m A)(hc:cc+d<=1000000)(h:ga n A):ga n (A.dels d):=by obtain⟨L,T,t,h⟩:=h;exact⟨L,T,t,h.dels a hm hp d A cc hl hc⟩
theorem pG(c:n<=5)(hm:m<=3990)(hp:p<=1900)(d:Nat)(A:AS)(cc:Nat)(hl:Kn n cc k p m A)(hc:cc+d<=1000000){T:Int}(h:∀i,i<n->(A.r i).bt<=T):∀i,i<n->((A.dels d).r i).bt<=T:=ev c hm hp (fun r _=>∀i,i<n->(r i).bt<=T) (fun f j x l r a b=>(iH a b).2) d A cc hl hc h
theorem kN(e:n<=5)(hm:m<=3990)(hp:p<=1900)(d:Nat)(A:AS)(cc:Nat)(hl:Kn n cc k p m A)(hc:cc+d<=1000000):∀i,i<n->(A.r i).bt<=((A.dels d).r i).bt:=ev e hm hp (fun r _=>∀i,i<n->(A.r i).bt<=(r i).bt) (fun f j x l r b c i a=>Int.le_trans (c i a) (ig b i)) d A cc hl hc (fun i a=>Int.le_refl _)
theorem ni(P:Prop)(h:¬P->False):P:=Classical.byContradiction h
theorem wu(hN:N=4000)(h5:n<=5)(hm:m<=3990)(hp:p<=1000)(hB:Kn n cc k p m B)(hc:cc+4000<=1000000){r1 r2:Nat->aa}{c g:List L3}(z:B.dels B.ls.length=⟨r1,c⟩)(e2:(⟨r1,c⟩:AS).dels c.length=⟨r2,g⟩)(hl1:Kn n (cc+B.ls.length) k p m ⟨r1,c⟩)
 (i:j<n)(hb:wP n j B)(hr:(B.r j).role=2)(hz:(r2 j).bt=(B.r j).bt):ga n (B.dels N):=by
 have a:B.ls.length<=p:=(hB.vw h5).bag;have o:c.length<=p:=(hl1.vw h5).bag;obtain⟨d,b⟩:=B;have f:∀q,q<n->(d q).bt<=(d j).bt:=fun q h=>by
  by_cases e:q=j
  ·subst e;exact Int.le_refl _
  ·refine ni _ fun l=> ?_
   obtain⟨x,y,w,v⟩:=hb q h e;have A:=told h5 hm (by omega) hB y (.inr w) (V:=(d q).bt) (by rw[v];show(d j).bt<_;omega) (Int.le_refl _) z e2 (by show cc+b.length+c.length<=_;have:b.length<=p:=a;omega);have hz:(r2 j).bt=(d j).bt:=hz;omega
 have t:=join h5 hm (by omega) hB (by have:b.length<=p:=a;omega) i f hr rfl rfl hb;have a:b.length<=p:=a;have e:N=b.length+(N-b.length):=by omega
 rw[e,bZ];have s:=hB.dels h5 hm (by omega) b.length _ _ (by omega);exact ga.dels h5 hm (by omega) _ _ _ s (by omega) ⟨_,_,_,t⟩
theorem tW(hN:N=4000)(h5:n<=5)(hm:m<=3990)(hp:p<=1000)(hB:Kn n cc k p m B)(hc:cc+4000<=1000000){r1 r2:Nat->aa}{a b:List L3}(o:B.dels B.ls.length=⟨r1,a⟩)(e2:(⟨r1,a⟩:AS).dels a.length=⟨r2,b⟩)(hl1:Kn n (cc+B.ls.length) k p m ⟨r1,a⟩)(hl2:Kn n (cc+B.ls.length+a.length) k p m ⟨r2,b⟩)
 (v:j<n)(hb:yY n j B)(hr:(r2 j).role=2)(hz:(r2 j).bt=(B.r j).bt)(hal:∀i,i<n->i≠j->∃x,(j,i,x)∈b/\(x.k=3\/x.k=5)/\x.t=(r2 j).bt):ga n (B.dels N):=by
 have g:B.ls.length<=p:=(hB.vw h5).bag;have z:a.length<=p:=(hl1.vw h5).bag;have y:b.length<=p:=(hl2.vw h5).bag;obtain⟨f,c⟩:=B;have g:c.length<=p:=g;have l:∀q,q<n->(f q).bt<=(f j).bt:=fun q s=>by
  by_cases e:q=j
  ·subst e;exact Int.le_refl _
  ·refine ni _ fun w=> ?_
   obtain⟨x,G,F,D⟩:=hb q s e;have H:=told h5 hm (by omega) hB G (.inl F) (V:=(f q).bt) (by rw[D];show(f j).bt<_;omega) (Int.le_refl _) o e2 (by show cc+c.length+a.length<=_;omega);have hz:(r2 j).bt=(f j).bt:=hz;omega
 have h:(⟨f,c⟩:AS).dels (c.length+a.length)=⟨r2,b⟩:=by rw[bZ,o,e2]
 have d:=pG h5 hm (by omega) (c.length+a.length) _ _ hB (by omega) l;rw[h]at d;have C:=join h5 hm (by omega) hl2 (by show cc+c.length+a.length+b.length<=_;omega) v (T:=(r2 j).bt) (by rw[hz];exact d) hr rfl rfl hal;have e:N=(c.length+a.length)+(b.length+(N-c.length-a.length-b.length)):=by omega
 rw[e,bZ,h,bZ];have A:=hl2.dels h5 hm (by omega) b.length _ _ (by show cc+c.length+a.length+b.length<=_;omega);exact ga.dels h5 hm (by omega) _ _ _ A (by show cc+c.length+a.length+b.length+_<=_;omega) ⟨_,_,_,C⟩
theorem un(B:n<=5)(hm:m<=3990)(hp:p<=1000){r:Nat->aa}{l:List L3}(L:Kn n cc k p m ⟨r,l⟩)(hc:cc+4000<=1000000)(hk:∀y∈l,y.2.2.k≠1/\y.2.2.k≠2)(hr:∀j,j<n->(r j).role≠2):∃d r',d<=2000/\(⟨r,l⟩:AS).dels d=⟨r',[]⟩/\∀j,j<n->(r' j).role≠2:=by
 have U:l.length<=p:=(L.vw B).bag;have e:∀f j x l r,Vw n k p ⟨r,(f,j,x)::l⟩->x.k≠2->(∀i,i<n->(r i).role≠2)->∀i,i<n->(db r f j x i).role≠2:=fun f j x l r g S h i M V=>by
  rcases fy g M V with⟨b, -⟩ | ⟨-, -,b, -⟩
  ·exact h i M b
  ·exact S b
 have W:Kn n cc k p m ⟨r,l++ []⟩:=by rw[List.append_nil];exact L
 obtain⟨A,I,O,X,N⟩:=round B hm (by omega) (fun a new r=>(∀y∈a,y.2.2.k≠1/\y.2.2.k≠2)/\(∀y∈new,y.2.2.k=4)/\∀i,i<n->(r i).role≠2)
  (fun f j x a new r g F=>by
   obtain⟨w,v,t⟩:=F;obtain⟨J,R⟩:=w _ List.mem_cons_self;have s:=e _ _ _ _ _ g R t;refine⟨fun y c=>w y (List.mem_cons_of_mem _ c),fun y c=> ?_,s⟩;rcases List.mem_append.1 c with c | c
   ·exact v y c
   ·obtain⟨C,H,q⟩:=cT g c;rcases q with⟨-,o, -⟩ | ⟨q, -⟩ | ⟨-,o, -⟩
    ·exact absurd o J
    ·exact q
    ·obtain⟨D, -⟩:=g.he;have z:=s j D;rw[show db r f j x j=bM (han r f j x) from bB _ _ _]at z;exact absurd o z) l [] r cc W (by omega) ⟨hk,fun y c=>(by cases c),hr⟩
 rw[List.append_nil]at O;obtain⟨-,v,t⟩:=X;have T:A.length<=p:=(N.vw B).bag;have G:Kn n (cc+l.length) k p m ⟨I,A++ []⟩:=by rw[List.append_nil];exact N
 obtain⟨Y,P,C,H,q⟩:=round B hm (by omega) (fun a new r=>(∀y∈a,y.2.2.k=4)/\new= []/\∀i,i<n->(r i).role≠2)
  (fun f j x a new r g F=>by
   obtain⟨w,v,t⟩:=F;have J:x.k=4:=w _ List.mem_cons_self;have s:=e _ _ _ _ _ g (by omega) t;refine⟨fun y c=>w y (List.mem_cons_of_mem _ c),?_,s⟩;rw[v,List.nil_append];cases ho:aQ j (han r f j x) with
   | nil=>rfl
   | cons y ys=>
    exfalso;obtain⟨C,H,q⟩:=cT g (y:=y) (by rw[ho];exact List.mem_cons_self);rcases q with⟨-,o, -⟩ | ⟨-,o, -⟩ | ⟨-,o, -⟩
    ·omega
    ·omega
    ·obtain⟨D, -⟩:=g.he;have z:=s j D;rw[show db r f j x j=bM (han r f j x) from bB _ _ _]at z;exact absurd o z) A [] I (cc+l.length) G (by omega) ⟨v,rfl,t⟩
 rw[List.append_nil]at C;obtain⟨-,c2,c3⟩:=H;subst c2;exact⟨l.length+A.length,P,by omega,by rw[bZ,O,C],c3⟩
theorem mB(h2:2<=n)(hN:N=4000)(h5:n<=5)(hm:m+10<=3990)(hp:p+5<=1000)(hk:k+5<=1000000)(hA:Kn n cc k p m A)(hc:cc+8010<=1000000)(hkd:∀y∈A.ls,y.2.2.k≠1/\y.2.2.k≠2):
  ga n (A.fair1 N n)\/((∀y∈(A.fair1 N n).ls,y.2.2.k≠1/\y.2.2.k≠2)/\(∀j,j<n->((A.fair1 N n).r j).role=2->(A.r j).role=2/\((A.fair1 N n).r j).ticks=(A.r j).ticks+1)/\((∀j,j<n->(A.r j).role≠2)->(A.fair1 N n).ls= [])):=by
 obtain⟨B,c⟩:∃B,B=AS.ticks n A:=⟨_,rfl⟩
 have F:Kn n (cc+n) (k+n) (p+n) (m+2*n) B:=by rw[c];exact Kn.ticks h5 hm hk (by omega) (by omega) hA n (Nat.le_refl _)
 have D:TK n A B (aD n A):=by rw[c];exact jR (hA.vw h5) h2 (by omega)
 have X:A.fair1 N n=B.dels N:=by rw[c];rfl
 rw[X];clear c X;obtain⟨r1,s,q,T,P,M,g,e,hT⟩:=mA h5 (by omega) (by omega) F (by omega) D hkd;have hb0:B.ls.length<=p+n:=(F.vw h5).bag;have hb1:s.length<=p+n:=(g.vw h5).bag;by_cases L:ga n (B.dels N)
 ·exact .inl L
 ·right
  have v:∀j,j<n->(q j).role=2->(A.r j).role=2/\(q j).ticks=(A.r j).ticks+1:=fun j a h=>by
   have U:(q j).bt=(B.r j).bt:=by
    rcases hT.z j a with Y | Y
    ·omega
    ·exact Y
   rcases hT.ld j a h with⟨G,o⟩ | ⟨G,o⟩
   ·have H:¬aD n A j:=fun hs=>by have:=(D.st j a hs).2.2.1;omega
    obtain⟨t1,t2,t3,t4,t5,C⟩:=D.ns j a H;rcases C with⟨C, -⟩ | ⟨C, -,t8⟩
    ·exact⟨t1.symm.trans G,o.trans C⟩
    ·exact absurd (wu hN h5 (by omega) (by omega) F (by omega) P M g a t8 G U) L
   ·exact absurd (tW hN h5 (by omega) (by omega) F (by omega) P M g e a (D.st j a G).2.2.2.2.2.2.2.2 h U o) L
  have O:B.dels (B.ls.length+s.length)=⟨q,T⟩:=by rw[bZ,P,M]
  obtain⟨w,J⟩:∃w,N=(B.ls.length+s.length)+w:=⟨N-(B.ls.length+s.length),by omega⟩
  have o:=ev (cc:=cc+n+B.ls.length+s.length) h5 (by omega) (by omega) (fun r ls=>(∀y∈ls,y.2.2.k≠1/\y.2.2.k≠2)/\∀j,j<n->(r j).role=2->(A.r j).role=2/\(r j).ticks=(A.r j).ticks+1) (fun f j x l r V hP=>by
   obtain⟨S,q2⟩:=hP;obtain⟨q3,q4⟩:=S _ List.mem_cons_self;refine⟨fun y t=> ?_,fun i W h=> ?_⟩
   ·rcases List.mem_append.1 t with t | t
    ·exact S y (List.mem_cons_of_mem _ t)
    ·obtain⟨b1,Z,R⟩:=cT V t;rcases R with⟨-,b4, -⟩ | ⟨R, -⟩ | ⟨R, -⟩
     ·exact absurd b4 q3
     ·exact⟨by omega,by omega⟩
     ·exact⟨by omega,by omega⟩
   ·rcases fy V W h with⟨b1,Z, -⟩ | ⟨-, -,b, -⟩
    ·obtain⟨c1,c2⟩:=q2 i W b1;exact⟨c1,Z.trans c2⟩
    ·exact absurd b q4) w ⟨q,T⟩ e (by omega) ⟨hT.kd,v⟩
  rw[J,bZ,O];refine⟨o.1,o.2,fun I=> ?_⟩;obtain⟨d,r',hd,he, -⟩:=un h5 (by omega) (by omega) e (by omega) hT.kd (fun j a h=>I j a (v j a h).1);have e9:w=d+(w-d):=by omega
  rw[e9,bZ,he,iq _ rfl]
end
section
variable {n i j k c m cc p N : Nat} {A B : AS} {R : aa} {f : Nat} {x : ax} {r : Nat -> aa} {l old new : List L3} {S : Nat -> Prop}
def eE(n:Nat)(A:AS):Prop:=A.ls= []/\∀j,j<n->(A.r j).role≠2
structure ET (n:Nat) (A A':AS):Prop where
 q1:∀c,aD n A c->∀q,q<n->(A'.r q).bt<=(A'.r c).bt
 q2:∀j,j<n->¬aD n A j->(A'.r j).ticks=(A.r j).ticks+1\/((A'.r j).ticks=0/\∃c,aD n A c/\(A.r j).bt<=(A.r c).bt+1)
 q2s:∀j,aD n A j->(A'.r j).ticks=0
 q3:∀c,aD n A c->∀j,j<n->(A.r c).bt+1<=(A'.r j).bt
 q4:∀V:Int,(∀j,j<n->(A.r j).bt<=V)->(∀c,aD n A c->(A.r c).bt+1<=V)->∀j,j<n->(A'.r j).bt<=V
 mono:∀j,j<n->(A.r j).bt<=(A'.r j).bt
theorem vM(s:n<=5)(hm:m<=3990)(hp:p<=1900)(hB:Kn n cc k p m B)(hc:cc+B.ls.length<=1000000){y:L3}(l:y∈B.ls):y.2.2.t<=((B.dels B.ls.length).r y.2.1).bt:=by
 obtain⟨c,d⟩:=B;have v:Kn n cc k p m ⟨c,d++ []⟩:=by rw[List.append_nil];exact hB
 obtain⟨A,z,i,w,F⟩:=round s hm hp (fun b new r=>y.2.2.t<=(r y.2.1).bt\/y∈b)
  (fun f j x b new r g a=>by
   obtain⟨C,D,q,o,he⟩:=g.he;rcases a with a | a
   ·exact .inl (Int.le_trans a (ig g _))
   ·rcases List.mem_cons.1 a with e | a
    ·subst e
     left
     show x.t<=(db r f j x j).bt;rw[show db r f j x j=bM (han r f j x) from bB _ _ _];show x.t<=(han r f j x).bt;rw[he.bt];omega
    ·exact .inr a) d [] c cc v hc (.inr l)
 rw[List.append_nil]at i;rw[i];rcases w with h | h
 ·exact h
 ·cases h
theorem yS(h2:2<=n)(hN:N=4000)(h5:n<=5)(hm:m+10<=3990)(hp:p+5<=1000)(hk:k+5<=1000000)(hA:Kn n cc k p m A)(hc:cc+8010<=1000000)(hE:eE n A):ET n A (A.fair1 N n):=by
 obtain⟨B,J⟩:∃B,B=AS.ticks n A:=⟨_,rfl⟩
 have D:Kn n (cc+n) (k+n) (p+n) (m+2*n) B:=by rw[J];exact Kn.ticks h5 hm hk (by omega) (by omega) hA n (Nat.le_refl _)
 have C:TK n A B (aD n A):=by rw[J];exact jR (hA.vw h5) h2 (by omega)
 have hF:A.fair1 N n=B.dels N:=by rw[J];rfl
 rw[hF];clear J hF;obtain⟨Y,R⟩:=hE;obtain⟨r1,F,r2,l2,e1,e2,hl1,hl2,hT⟩:=mA h5 (by omega) (by omega) D (by omega) C (fun y z=>by rw[Y]at z;cases z);have hb0:B.ls.length<=p+n:=(D.vw h5).bag;have hb1:F.length<=p+n:=(hl1.vw h5).bag;have e12:B.dels (B.ls.length+F.length)=⟨r2,l2⟩:=by rw[bZ,e1,e2]
 obtain⟨M,S⟩:∃M,N=(B.ls.length+F.length)+M:=⟨N-(B.ls.length+F.length),by omega⟩
 have a0:B.dels N=(⟨r2,l2⟩:AS).dels M:=by rw[S,bZ,e12]
 have a1:∀j,j<n->(aD n A j/\(B.r j).bt=(A.r j).bt+1)\/(B.r j).bt=(A.r j).bt:=fun j a=>by
  by_cases e:aD n A j
  ·exact .inl ⟨e,(C.st j a e).2.2.2.1⟩
  ·exact .inr (C.ns j a e).2.1
 have d:=kN h5 (by omega) (by omega) N B _ D (by omega);have hq4:∀V:Int,(∀j,j<n->(A.r j).bt<=V)->(∀c,aD n A c->(A.r c).bt+1<=V)->∀j,j<n->((B.dels N).r j).bt<=V:=fun V g w=>
  pG h5 (by omega) (by omega) N B _ D (by omega) (fun j a=>by
   rcases a1 j a with⟨e,s⟩ | s
   ·rw[s];exact w j e
   ·rw[s];exact g j a)
 have hq1:∀c,aD n A c->∀q,q<n->(B.r q).bt<=((B.dels N).r c).bt:=fun c o q hq=>by
  have v:=o.1;by_cases e:q=c
  ·subst e;exact d q v
  ·by_cases H:(B.r q).bt<=(B.r c).bt
   ·exact Int.le_trans H (d c v)
   ·obtain⟨x,g,w,s⟩:=(C.st c v o).2.2.2.2.2.2.2.2 q hq e;obtain⟨r0,l0⟩:=B;have h9:=told h5 (by omega) (by omega) D g (.inl w) (V:=(r0 q).bt) (by rw[s];have H:¬(r0 q).bt<=(r0 c).bt:=H;show(r0 c).bt<_;omega) (Int.le_refl _) e1 e2 (by have:l0.length<=p+n:=hb0;show cc+n+l0.length+F.length<=_;omega);rw[a0];exact Int.le_trans h9 (kN h5 (by omega) (by omega) M ⟨r2,l2⟩ _ hl2 (by show cc+n+l0.length+F.length+M<=_;have S:N=l0.length+F.length+M:=S;omega) c v)
 have T:=ev h5 (by omega) (by omega) (p:=p+n) (fun r ls=>(∀y∈ls,((y.2.2.k=1\/y.2.2.k=3\/y.2.2.k=5)->aD n A y.1/\y.2.2.t=(B.r y.1).bt)/\(y.2.2.k=2->aD n A y.2.1))/\(∀j,j<n->((r j).role=0\/(r j).bt=(B.r j).bt)/\((r j).role=2->aD n A j)/\(A.r j).bt<=(r j).bt/\(aD n A j->(r j).ticks=0)/\(¬aD n A j->(r j).ticks=(A.r j).ticks+1\/((r j).ticks=0/\∃c,aD n A c/\(A.r j).bt<=(A.r c).bt+1)))) (fun f j x l r U T=>by
   obtain⟨q1,W⟩:=T;obtain⟨q3,q4⟩:=q1 _ List.mem_cons_self;obtain⟨a,hf,hfj,hxt,he⟩:=U.he;have P:∀i,i<n->(db r f j x i).role=2->aD n A i:=fun i I hr=>by
    rcases fy U I hr with⟨b1, -⟩ | ⟨b1, -,b, -⟩
    ·exact(W i I).2.1 b1
    ·rw[b1];exact q4 b
   refine⟨fun y z=> ?_,fun i I=>⟨kF U I (W i I).1,P i I,Int.le_trans (W i I).2.2.1 (ig U i),?_⟩⟩
   ·rcases List.mem_append.1 z with z | z
    ·exact q1 y (List.mem_cons_of_mem _ z)
    ·obtain⟨b1,L,O⟩:=cT U z;rcases O with⟨O,b4,b5⟩ | ⟨O, -⟩ | ⟨O,b4, -⟩
     ·exact⟨fun e=>by omega,fun _=>by rw[b5];exact(q3 (.inl b4)).1⟩
     ·exact⟨fun e=>by omega,fun e=>by omega⟩
     ·refine⟨fun _=> ?_,fun e=>by omega⟩;rw[b1,L];have g:(db r f j x j).role=2:=by rw[show db r f j x j=bM (han r f j x) from bB _ _ _];exact b4
      refine⟨P j a g,?_⟩;rcases kF U a (W j a).1 with w | w
      ·omega
      ·rw[<-w,show db r f j x j=bM (han r f j x) from bB _ _ _];rfl
   ·obtain⟨-, -,a3,a4,a5⟩:=W i I;by_cases e:i=j
    ·subst e;have X:=P i I;rw[show db r f i x i=bM (han r f i x) from bB _ _ _]at X ⊢;show(aD n A i->(han r f i x).ticks=0)/\(¬aD n A i->(han r f i x).ticks=_\/((han r f i x).ticks=0/\_))
     refine⟨fun G=> ?_,fun G=> ?_⟩
     ·rcases he.tk with b | ⟨b, -⟩
      ·rw[b];exact a4 G
      ·exact b
     ·rcases he.tk with b | ⟨b,L⟩
      ·rw[b];exact a5 G
      ·refine .inr ⟨b,f,?_⟩;have s:∀Z:x.k=1\/x.k=3\/x.k=5,(r i).bt<=x.t->aD n A f/\(A.r i).bt<=(A.r f).bt+1:=fun Z H=>by
        obtain⟨c1,c2⟩:=q3 Z;have c2:x.t=(B.r f).bt:=c2;have c3:=(C.st f c1.1 c1).2.2.2.1;exact⟨c1,by omega⟩
       rcases L with⟨L,O, -⟩ | ⟨L,O⟩ | L
       ·exact s (.inl L) O
       ·exact s (.inr L) O
       ·exact absurd (X L) G
    ·rw[show db r f j x i=r i from di _ _ e];exact⟨a4,a5⟩) N B (cc+n) D (by omega) ⟨fun y z=>by
   rcases C.mem y z with g | ⟨g,w,s, -⟩ | ⟨-,g, -⟩
   ·rw[Y]at g;cases g
   ·exact⟨fun _=>⟨w,s⟩,fun e=>by omega⟩
   ·exfalso;have hyn:y.1<n:=((D.vw h5).f y z).1;exact R _ hyn g,fun j a=>⟨.inr rfl,fun h=>by
    exfalso;by_cases e:aD n A j
    ·have:=(C.st j a e).2.2.1;omega
    ·exact R j a ((C.ns j a e).1 ▸ h),by
    rcases a1 j a with⟨-,s⟩ | s<;>rw[s]<;>omega,fun e=>(C.st j a e).2.2.2.2.1,fun e=>by
    rcases (C.ns j a e).2.2.2.2.2 with⟨g, -⟩ | ⟨g, -⟩
    ·exact .inl g
    ·exact absurd g (R j a)⟩⟩
 obtain⟨-,T⟩:=T;refine⟨fun c o q hq=> ?_,fun j a G=>(T j a).2.2.2.2 G,fun j G=>(T j G.1).2.2.2.1 G,fun c o j a=> ?_,hq4,fun j a=>(T j a).2.2.1⟩
 ·exact pG h5 (by omega) (by omega) N B _ D (by omega) (hq1 c o) q hq
 ·have v:=o.1;have g:=(C.st c v o)
  by_cases e:j=c
  ·subst e;have w:=d j a;rw[g.2.2.2.1]at w;exact w
  ·obtain⟨x,w,s,h9⟩:=g.2.2.2.2.2.2.2.2 j a e;have a2:=vM h5 (by omega) (by omega) D (by omega) w;have a2:x.t<=((B.dels B.ls.length).r j).bt:=a2;have e9:N=B.ls.length+(F.length+M):=by omega
   rw[e9,bZ];have h11:=kN h5 (by omega) (by omega) (F.length+M) _ _ (D.dels h5 (by omega) (by omega) B.ls.length _ _ (by omega)) (by omega) j a;have h12:=g.2.2.2.1;omega
end
section
variable {n i j k c m cc p N : Nat} {A B : AS} {R : aa} {f : Nat} {x : ax} {r : Nat -> aa} {l old new : List L3} {S : Nat -> Prop}
def AS.fairs(N n:Nat):Nat->AS->AS
 | 0,A=>A
 | t+1,A=>AS.fairs N n t (A.fair1 N n)
theorem dz(N n t:Nat)(A:AS):AS.fairs N n (t+1) A=AS.fairs N n t (A.fair1 N n):=rfl
theorem cQ(N n a b:Nat)(A:AS):AS.fairs N n (a+b) A=AS.fairs N n b (AS.fairs N n a A):=by
 induction a generalizing A with
 | zero=>rw[Nat.zero_add];rfl
 | succ a ih=>rw[show a+1+b=(a+b)+1 by omega,dz,ih,dz]
theorem Kn.fair1(hN:N=4000)(h5:n<=5)(hm:m+10<=3990)(hk:k+5<=1000000)(hp:p+5<=1900)(hc:cc+4010<=1000000)(h:Kn n cc k p m A):Kn n (cc+4005) (k+5) (p+5) (m+10) (A.fair1 N n):=by have b:=Kn.ticks h5 hm hk hp (by omega) h n (Nat.le_refl _);have a:=b.dels h5 (by omega) (by omega) N _ _ (by omega);exact a.up (by omega) (by omega) (by omega) (by omega)
theorem Kn.fairs(hN:N=4000)(h5:n<=5)(t:Nat){A:AS}{cc k p m:Nat}(a:m+10*t<=3990)(hk:k+5*t<=1000000)(hp:p+5*t<=1900)(hc:cc+4010*t<=1000000)(h:Kn n cc k p m A):Kn n (cc+4005*t) (k+5*t) (p+5*t) (m+10*t) (AS.fairs N n t A):=by
 induction t generalizing A cc k p m with
 | zero=>exact h
 | succ t ih=>rw[Nat.mul_succ]at a hk hp hc;have c:=Kn.fair1 hN h5 (by omega) (by omega) (by omega) (by omega) h;have b:=ih (A:=A.fair1 N n) (cc:=cc+4005) (k:=k+5) (p:=p+5) (m:=m+10) (by omega) (by omega) (by omega) (by omega) c;rw[dz];refine b.up ?_ ?_ ?_ ?_<;>rw[Nat.mul_succ]<;>omega
theorem de.tick(G:2<=n)(hN:N=4000)(h5:n<=5)(hm:m+10<=3990)(hp:p+5<=1900)(hk:k+5<=1000000)(hA:Kn n cc k p m A)(hc:cc+4010<=1000000){L:Nat}{T t:Int}(h:de n L T t A.r):
  (t<3/\de n L T (t+1) (AS.ticks n A).r/\de n L T (t+1) (A.fair1 N n).r)\/(t=3/\wP n L (AS.ticks n A)/\de n L T 0 (A.fair1 N n).r):=by
 have f:=hA.vw h5;obtain⟨B,b⟩:∃B,B=AS.ticks n A:=⟨_,rfl⟩
 have o:Kn n (cc+n) (k+n) (p+n) (m+2*n) B:=by rw[b];exact Kn.ticks h5 hm hk (by omega) (by omega) hA n (Nat.le_refl _)
 have D:TK n A B (aD n A):=by rw[b];exact jR f G (by omega)
 have P:A.fair1 N n=B.dels N:=by rw[b];rfl
 rw[P,<-b];have U:=(f.q L h.ln).tl h.role;rw[h.tk]at U;have l:∀j,j<n->¬aD n A j:=fun j g F=>by
  by_cases e:j=L
  ·subst e;exact F.2.1 h.role
  ·have h6:=(h.all j g e).2.2.2;have Z:=F.2.2;omega
 have c:∀j,j<n->j≠L->(B.r j).bt=T/\(B.r j).role=0/\(B.r j).lead=L/\(B.r j).ticks<=t+1:=fun j g e=>by
  obtain⟨x,w,t3,H,C,d⟩:=D.ns j g (l j g);obtain⟨Y,X,W,a4⟩:=h.all j g e;refine⟨w.trans Y,x.trans X,C.trans W,?_⟩;rcases d with⟨d, -⟩ | ⟨d, -⟩
  ·omega
  ·omega
 obtain⟨x,w,t3,H,C,d⟩:=D.ns L h.ln (l L h.ln);have a:(B.r L).bt=T:=w.trans h.bt;have i:(B.r L).role=2:=x.trans h.role;rcases d with⟨d, -⟩ | ⟨-,v,z⟩
 ·have s:de n L T (t+1) B.r:=⟨h.ln,i,a,by rw[d,h.tk],c⟩
  have S:=((o.vw h5).q L h.ln).tl i;rw[s.tk]at S;exact .inl ⟨by omega,s,s.dels h5 (by omega) (by omega) N _ _ o (by omega)⟩
 ·have I:B.ls.length<=p+n:=(o.vw h5).bag;have s:=join h5 (by omega) (by omega) (r:=B.r) (ls:=B.ls) o (by omega) h.ln (T:=T) (t:=0) (fun j g=>by
   by_cases e:j=L
   ·subst e;rw[a];exact Int.le_refl _
   ·rw[(c j g e).1];exact Int.le_refl _) i a v (by rw[<-a];exact z)
  have y:t=3:=by
   have J:=(jo (R:=A.r L) (f.me L h.ln) (f.nn L h.ln) (f.out L h.ln) h.ln G h5 (by have:=(f.q L h.ln).bt;omega))
   have V:(B.r L).ticks=(A.r L).tick.ticks:=by rw[b,gy h.ln];rfl
   have O:=(f.ok L h.ln).tk0;have M:=h.tk;cases J with
   | beat hr ht' e=>omega
   | stand hr ht' nw e=>exact absurd h.role hr
   | wait hl hf e=>rw[V,e]at v;have v:(A.r L).ticks+1=0:=v;omega
  refine .inr ⟨y,z,?_⟩;have e:N=B.ls.length+(N-B.ls.length):=by omega
  rw[e,bZ];exact de.dels h5 (by omega) (by omega) _ _ _ (o.dels h5 (by omega) (by omega) B.ls.length _ _ (by omega)) (by omega) s
theorem ga.tick(b:2<=n)(hN:N=4000)(h5:n<=5)(hm:m+10<=3990)(hp:p+5<=1900)(hk:k+5<=1000000)(hA:Kn n cc k p m A)(hc:cc+4010<=1000000)(h:ga n A):ga n (A.fair1 N n):=by
 obtain⟨L,T,t,h⟩:=h;rcases h.tick b hN h5 hm hp hk hA hc with⟨-, -,a⟩ | ⟨-, -,a⟩
 ·exact⟨L,T,_,a⟩
 ·exact⟨L,T,_,a⟩
theorem sF(U:2<=n)(hN:N=4000)(h5:n<=5)(hm:m+10<=3990)(hp:p+5<=1000)(hk:k+5<=1000000)(hA:Kn n cc k p m A)(hc:cc+4010<=1000000):∀y∈(A.fair1 N n).ls,y.2.2.k≠1/\y.2.2.k≠2:=by
 obtain⟨B,d⟩:∃B,B=AS.ticks n A:=⟨_,rfl⟩
 have H:Kn n (cc+n) (k+n) (p+n) (m+2*n) B:=by rw[d];exact Kn.ticks h5 hm hk (by omega) (by omega) hA n (Nat.le_refl _)
 have G:A.fair1 N n=B.dels N:=by rw[d];rfl
 rw[G];clear d G;obtain⟨C,c⟩:=B;have R:c.length<=p+n:=(H.vw h5).bag;have S:Kn n (cc+n) (k+n) (p+n) (m+2*n) ⟨C,c++ []⟩:=by rw[List.append_nil];exact H
 obtain⟨e,z,J,T,I⟩:=round h5 (by omega) (by omega) (fun b new r=>∀y∈new,y.2.2.k≠1) (fun f j x b new r g t y a=>by
  rcases List.mem_append.1 a with a | a
  ·exact t y a
  ·obtain⟨h,o,i⟩:=cT g a;omega) c [] C (cc+n) S (by omega) (fun y a=>by cases a)
 rw[List.append_nil]at J;have P:e.length<=p+n:=(I.vw h5).bag;have v:Kn n (cc+n+c.length) (k+n) (p+n) (m+2*n) ⟨z,e++ []⟩:=by rw[List.append_nil];exact I
 obtain⟨O,L,h,o,i⟩:=round h5 (by omega) (by omega) (fun b new r=>(∀y∈b,y.2.2.k≠1)/\∀y∈new,y.2.2.k≠1/\y.2.2.k≠2) (fun f j x b new r g t=>by
  obtain⟨D,M⟩:=t;have q:x.k≠1:=D _ List.mem_cons_self;refine⟨fun y a=>D y (List.mem_cons_of_mem _ a),fun y a=> ?_⟩;rcases List.mem_append.1 a with a | a
  ·exact M y a
  ·obtain⟨h,o,i⟩:=cT g a;omega) e [] z (cc+n+c.length) v (by omega) ⟨T,fun y a=>by cases a⟩
 rw[List.append_nil]at h;obtain⟨w,s⟩:∃w,N=(c.length+e.length)+w:=⟨N-(c.length+e.length),by omega⟩
 rw[s,bZ,bZ,J,h];exact ev (cc:=cc+n+c.length+e.length) h5 (by omega) (by omega) (fun r ls=>∀y∈ls,y.2.2.k≠1/\y.2.2.k≠2) (fun f j x l r g F y a=>by
  have q:=F _ List.mem_cons_self;have q:x.k≠1/\x.k≠2:=q;rcases List.mem_append.1 a with a | a
  ·exact F y (List.mem_cons_of_mem _ a)
  ·obtain⟨h,o,i⟩:=cT g a;omega) w ⟨L,O⟩ i (by omega) o.2
end
section
variable {n i j k c m cc p N : Nat} {A A' B : AS} {R : aa} {f : Nat} {x : ax} {r : Nat -> aa} {l old new : List L3} {S : Nat -> Prop}
def sP(n:Nat)(s:Int)(A:AS):Prop:=(∀y∈A.ls,y.2.2.k≠1/\y.2.2.k≠2)/\∀j,j<n->(A.r j).role=2->s<=(A.r j).ticks
theorem kc{s:Int}(f:2<=n)(hN:N=4000)(h5:n<=5)(hm:m+10<=3990)(hp:p+5<=1000)(hk:k+5<=1000000)(hA:Kn n cc k p m A)(hc:cc+8010<=1000000)(h:sP n s A):ga n (A.fair1 N n)\/sP n (s+1) (A.fair1 N n):=by
 rcases mB f hN h5 hm hp hk hA hc h.1 with a | ⟨a,e, -⟩
 ·exact .inl a
 ·refine .inr ⟨a,fun j b c=> ?_⟩;obtain⟨d,g⟩:=e j b c;have:=h.2 j b d;omega
theorem tY(a:2<=n)(hN:N=4000)(h5:n<=5)(hm:m+60<=3990)(hp:p+35<=1000)(hk:k+30<=1000000)(hA:Kn n cc k p m A)(hc:cc+40000<=1000000):ga n (AS.fairs N n 6 A)\/eE n (AS.fairs N n 6 A):=by
 obtain⟨i,I⟩:∃i,i=A.fair1 N n:=⟨_,rfl⟩
 obtain⟨f,y⟩:∃f,f=i.fair1 N n:=⟨_,rfl⟩
 obtain⟨d,x⟩:∃d,d=f.fair1 N n:=⟨_,rfl⟩
 obtain⟨c,w⟩:∃c,c=d.fair1 N n:=⟨_,rfl⟩
 obtain⟨b,v⟩:∃b,b=c.fair1 N n:=⟨_,rfl⟩
 obtain⟨z,t⟩:∃z,z=b.fair1 N n:=⟨_,rfl⟩
 have e:AS.fairs N n 6 A=z:=by rw[t,v,w,x,y,I];rfl
 rw[e];have o:Kn n (cc+4005) (k+5) (p+5) (m+10) i:=by rw[I];exact Kn.fair1 hN h5 (by omega) (by omega) (by omega) (by omega) hA
 have F:Kn n (cc+4005+4005) (k+5+5) (p+5+5) (m+10+10) f:=by rw[y];exact Kn.fair1 hN h5 (by omega) (by omega) (by omega) (by omega) o
 have D:Kn n (cc+4005+4005+4005) (k+5+5+5) (p+5+5+5) (m+10+10+10) d:=by rw[x];exact Kn.fair1 hN h5 (by omega) (by omega) (by omega) (by omega) F
 have C:Kn n (cc+4005+4005+4005+4005) (k+5+5+5+5) (p+5+5+5+5) (m+10+10+10+10) c:=by rw[w];exact Kn.fair1 hN h5 (by omega) (by omega) (by omega) (by omega) D
 have B:Kn n (cc+4005+4005+4005+4005+4005) (k+5+5+5+5+5) (p+5+5+5+5+5) (m+10+10+10+10+10) b:=by rw[v];exact Kn.fair1 hN h5 (by omega) (by omega) (by omega) (by omega) C
 have W:ga n i->ga n f:=fun h=>by rw[y];exact ga.tick a hN h5 (by omega) (by omega) (by omega) o (by omega) h
 have V:ga n f->ga n d:=fun h=>by rw[x];exact ga.tick a hN h5 (by omega) (by omega) (by omega) F (by omega) h
 have U:ga n d->ga n c:=fun h=>by rw[w];exact ga.tick a hN h5 (by omega) (by omega) (by omega) D (by omega) h
 have T:ga n c->ga n b:=fun h=>by rw[v];exact ga.tick a hN h5 (by omega) (by omega) (by omega) C (by omega) h
 have S:ga n b->ga n z:=fun h=>by rw[t];exact ga.tick a hN h5 (by omega) (by omega) (by omega) B (by omega) h
 have R:sP n 0 i:=⟨by rw[I];exact sF a hN h5 (by omega) (by omega) (by omega) hA (by omega),fun j g _=>((o.vw h5).ok j g).tk0⟩
 have P:ga n f\/sP n (0+1) f:=by rw[y];exact kc a hN h5 (by omega) (by omega) (by omega) o (by omega) R
 have O:ga n d\/sP n (0+1+1) d:=by
  rcases P with h | h
  ·exact .inl (V h)
  ·rw[x];exact kc a hN h5 (by omega) (by omega) (by omega) F (by omega) h
 have M:ga n c\/sP n (0+1+1+1) c:=by
  rcases O with h | h
  ·exact .inl (U h)
  ·rw[w];exact kc a hN h5 (by omega) (by omega) (by omega) D (by omega) h
 have L:ga n b\/sP n (0+1+1+1+1) b:=by
  rcases M with h | h
  ·exact .inl (T h)
  ·rw[v];exact kc a hN h5 (by omega) (by omega) (by omega) C (by omega) h
 rcases L with h | h
 ·exact .inl (S h)
 ·have l:∀j,j<n->(b.r j).role≠2:=fun j g s=>by
   have H:=h.2 j g s;have G:=((B.vw h5).q j g).tl s;omega
  rcases mB a hN h5 (by omega) (by omega) (by omega) B (by omega) h.1 with H | ⟨-,G,J⟩
  ·rw[<-t]at H;exact .inl H
  ·rw[<-t]at G J;exact .inr ⟨J l,fun j g s=>l j g (G j g s).1⟩
theorem yg(d:2<=n)(hN:N=4000)(h5:n<=5)(hm:m+10<=3990)(hk:k+5<=1000000)(hA:Kn n cc k 160 m A)(hc:cc+8010<=1000000)(h:eE n A):ga n (A.fair1 N n)\/(eE n (A.fair1 N n)/\Kn n (cc+4005) (k+5) 160 (m+10) (A.fair1 N n)/\ET n A (A.fair1 N n)):=by
 rcases mB d hN h5 hm (by omega) hk hA hc (fun y a=>by rw[h.1]at a;cases a) with h1 | ⟨-,h3,h4⟩
 ·exact .inl h1
 ·have c:=h4 h.2;refine .inr ⟨⟨c,fun j b e=>h.2 j b (h3 j b e).1⟩,?_,yS d hN h5 hm (by omega) hk hA hc h⟩;exact(Kn.fair1 hN h5 hm hk (by omega) (by omega) hA).rebase h5 c
theorem sX(l:2<=n)(hN:N=4000)(h5:n<=5){P:AS->Prop}{I:Nat->AS->Prop}(h0:∀A cc k m,Kn n cc k 160 m A->eE n A->¬I 0 A)
 (hs:∀d A cc k m,m+10<=3990->k+5<=1000000->cc+8010<=1000000->Kn n cc k 160 m A->eE n A->eE n (A.fair1 N n)->ET n A (A.fair1 N n)->I (d+1) A->P (A.fair1 N n)\/I d (A.fair1 N n))(d:Nat){A:AS}{cc k m:Nat}
 (h:m+10*d+10<=3990)(hk:k+5*d+5<=1000000)(hc:cc+4010*d+8010<=1000000)(hA:Kn n cc k 160 m A)(hE:eE n A)(hI:I d A):(∃t,t<=d/\ga n (AS.fairs N n t A)/\Kn n (cc+4005*t) (k+5*t) 165 (m+10*t) (AS.fairs N n t A))\/∃t,t<=d/\eE n (AS.fairs N n t A)/\P (AS.fairs N n t A)/\Kn n (cc+4005*t) (k+5*t) 160 (m+10*t) (AS.fairs N n t A):=by
 induction d generalizing A cc k m with
 | zero=>exact absurd hI (h0 A cc k m hA hE)
 | succ d ih=>
  rw[Nat.mul_succ]at h hk hc;rcases yg l hN h5 (by omega) (by omega) hA (by omega) hE with a | ⟨a,g,j⟩
  ·exact .inl ⟨1,by omega,a,Kn.fair1 hN h5 (by omega) (by omega) (by omega) (by omega) hA⟩
  ·rcases hs d A cc k m (by omega) (by omega) (by omega) hA hE a j hI with e | e
   ·exact .inr ⟨1,by omega,a,e,g⟩
   ·rcases ih (cc:=cc+4005) (k:=k+5) (m:=m+10) (by omega) (by omega) (by omega) g a e with⟨t,i,c,b⟩ | ⟨t,i,c,b,f⟩
    ·refine .inl ⟨t+1,by omega,c,?_⟩;rw[dz];exact b.up (by omega) (by omega) (Nat.le_refl _) (by omega)
    ·refine .inr ⟨t+1,by omega,c,b,?_⟩;rw[dz];exact f.up (by omega) (by omega) (Nat.le_refl _) (by omega)
def fg(n:Nat)(A:AS):Prop:=∃M:Int,∀j,j<n->(A.r j).bt=M
def xB(n c:Nat)(A:AS):Prop:=c<n/\∀q,q<n->(A.r q).bt<=(A.r c).bt
theorem xW(i:2<=n)(hN:N=4000)(h5:n<=5){A:AS}{cc k m:Nat}(j:m+210<=3990)(hk:k+105<=1000000)(hc:cc+88210<=1000000)(hA:Kn n cc k 160 m A)(hE:eE n A):(∃t,t<=20/\ga n (AS.fairs N n t A)/\Kn n (cc+4005*t) (k+5*t) 165 (m+10*t) (AS.fairs N n t A))\/∃t,t<=20/\eE n (AS.fairs N n t A)/\(∃c,xB n c (AS.fairs N n t A))/\Kn n (cc+4005*t) (k+5*t) 160 (m+10*t) (AS.fairs N n t A):=by
 refine sX i hN h5 (P:=fun A=>∃c,xB n c A) (I:=fun d A=>20<=(A.r 0).ticks+d) (fun A cc k m hA hE f=> ?_) (fun d A cc k m _ _ _ hA hE g b f=> ?_) 20 (by omega) (by omega) (by omega) hA hE ?_
 ·have e:=((hA.vw h5).q 0 (by omega)).tf (hE.2 0 (by omega));simp only[Int.natCast_zero]at f e;omega
 ·by_cases a:∃c,aD n A c
  ·obtain⟨c,a⟩:=a;exact .inl ⟨c,a.1,b.q1 c a⟩
  ·right
   rcases b.q2 0 (by omega) (fun h=>a ⟨0,h⟩) with e | ⟨-,c,e, -⟩
   ·rw[e];push_cast at f;omega
   ·exact absurd ⟨c,e⟩ a
 ·have:=((hA.vw h5).ok 0 (by omega)).tk0;show(20:Int)<=(A.r 0).ticks+((20:Nat):Int)
  omega
theorem xV(F:2<=n)(hN:N=4000)(h5:n<=5){A:AS}{cc k m c:Nat}(G:m+290<=3990)(hk:k+145<=1000000)(hc:cc+120290<=1000000)(hA:Kn n cc k 160 m A)(hE:eE n A)(ht:xB n c A):(∃t,t<=28/\ga n (AS.fairs N n t A)/\Kn n (cc+4005*t) (k+5*t) 165 (m+10*t) (AS.fairs N n t A))\/∃t,t<=28/\eE n (AS.fairs N n t A)/\fg n (AS.fairs N n t A)/\Kn n (cc+4005*t) (k+5*t) 160 (m+10*t) (AS.fairs N n t A):=by
 refine sX F hN h5 (P:=fg n) (I:=fun d A=>xB n c A/\28<=(A.r c).ticks+d) (fun A cc k m hA hE h=> ?_) (fun d A cc k m _ _ _ hA hE w b h=> ?_) 28 (by omega) (by omega) (by omega) hA hE ⟨ht,?_⟩
 ·obtain⟨⟨f, -⟩,h⟩:=h;have i:=((hA.vw h5).q c f).tf (hE.2 c f);simp only[Int.natCast_zero]at h;omega
 ·obtain⟨⟨f,a⟩,h⟩:=h;obtain⟨M,z⟩:∃M,M=(A.r c).bt:=⟨_,rfl⟩
  rw[<-z]at a;generalize A.fair1 N n=y at w b;have l:∀e,aD n A e->(A.r e).bt+1=M+1->fg n y:=fun e he i=>⟨M+1,fun j p=>by have D:=b.q3 e he j p;have H:=b.q4 (M+1) (fun q v=>by have:=a q v;omega) (fun d s=>by have:=a d s.1;omega) j p;omega⟩
  by_cases x:aD n A c
  ·exact .inl (l c x (by omega))
  ·by_cases g:∃e,aD n A e/\(A.r e).bt=M
   ·obtain⟨e,he,i⟩:=g;exact .inl (l e he (by omega))
   ·have o:∀j,j<n->(y.r j).bt<=M:=b.q4 M a (fun d s=>by
     have i:=a d s.1;by_cases e:(A.r d).bt=M
     ·exact absurd ⟨d,s,e⟩ g
     ·omega)
    rcases b.q2 c f x with i | ⟨-,d,i,D⟩
    ·right
     refine⟨⟨f,fun q v=> ?_⟩,by rw[i];push_cast at h;omega⟩;have C:=o q v;have B:=b.mono c f;omega
    ·left
     refine⟨M,fun j p=> ?_⟩;have C:=o j p;have B:=b.q3 d i j p;omega
 ·have:=((hA.vw h5).ok c ht.1).tk0;show(28:Int)<=(A.r c).ticks+((28:Nat):Int)
  omega
end
def pE(l l':ae):Bool:=ed l.last (bk l l.last).1 l'.last (bk l' l'.last).1
section
variable {n i j k c m cc p N : Nat} {A A' B : AS} {R : aa} {f : Nat} {x : ax} {r : Nat -> aa} {l old new : List L3} {S : Nat -> Prop}
theorem kM{a b c:ae}(h1:pE a b=true)(h2:pE b c=true):pE a c=true:=by simp only[pE,ed,Bool.or_eq_true,Bool.and_eq_true,decide_eq_true_eq]at h1 h2 ⊢;omega
theorem oS(a b:ae):pE a b=true\/pE b a=true:=by simp only[pE,ed,Bool.or_eq_true,Bool.and_eq_true,decide_eq_true_eq];omega
theorem qI(a:ae):pE a a=true:=by rcases oS a a with h | h<;>exact h
theorem qJ(g:Nat->ae):∀n,1<=n->∃b,b<n/\∀j,j<n->pE (g b) (g j)=true
 | 0,h=>by omega
 | 1,_=>⟨0,by omega,fun j c=>by rw[show j=0 by omega];exact qI _⟩
 | n+2,_=>by
  obtain⟨b,d,h⟩:=qJ g (n+1) (by omega);rcases oS (g b) (g (n+1)) with a | a
  ·exact⟨b,by omega,fun j c=>by
    by_cases e:j=n+1
    ·rw[e];exact a
    ·exact h j (by omega)⟩
  ·exact⟨n+1,by omega,fun j c=>by
    by_cases e:j=n+1
    ·rw[e];exact qI _
    ·exact kM a (h j (by omega))⟩
theorem jE(i:R.me=j)(hn:R.n=n)(ho:R.out= [])(hf:f<n)(hfj:f≠j)(hr:aO x=true)(hk:x.k=1)(hle:R.bt<=x.t):∃yes:Bool,yes=bJ x.t (if R.bt<x.t then -1 else R.bf) f x.t (ed x.a x.u R.line.last (bk R.line R.line.last).1)/\
  (R.handle f x).ticks=(if yes=true then 0 else R.ticks)/\(R.handle f x).bf=(if yes=true then(f:Int) else if R.bt<x.t then -1 else R.bf)/\(R.handle f x).bt=x.t/\(R.handle f x).out= [((f:Int),⟨2,x.t,0,0,0,yes,[],[]⟩)]/\(R.handle f x).line=R.line:=by
 have l:HS R (R.stepUp x.t) j n x:=vJ i hn ho;have h:=cR i hn hf hfj hr;have c:(R.stepUp x.t).bf=if R.bt<x.t then -1 else R.bf:=by rw[dZ];split<;>rfl
 generalize R.stepUp x.t=S at h l c;generalize R.handle f x=T at h;obtain⟨r,q,p,o,g,m⟩:=l;have d:S.bt=x.t:=by
  rcases m with⟨a,b⟩ | ⟨a,b, -⟩
  ·rw[b];omega
  ·exact b
 cases h with
 | ask yes nw hk' hy e=>
  rw[d,c,g]at hy;refine⟨yes,hy,?_,?_,?_,?_,?_⟩
  ·rw[e];show(if yes=true then 0 else S.ticks)=_;rw[o]
  ·rw[e];show(if yes=true then(f:Int) else S.bf)=_;rw[c]
  ·rw[e];exact d
  ·rw[e];show S.out++_=_;rw[p,d];rfl
  ·rw[e];exact g
 | vote hk'=>omega
 | still e hh=>omega
 | refuse hk'=>omega
 | follow hk'=>omega
 | got hk'=>omega
def wM(n:Nat)(T:Int)(r:Nat->aa):Prop:=∃j,j<n/\(r j).role=2/\(r j).bt=T/\∀i,i<n->(r i).bt<=T
theorem wM.step{T:Int}(c:Vw n k p ⟨r,(f,j,x)::l⟩)(h:wM n T r):wM n T (db r f j x):=by obtain⟨i,d,m,g,e⟩:=h;obtain⟨a,b, -⟩:=lead_step c d e m g rfl;exact⟨i,d,a,b,(iH c e).2⟩
structure yo (n:Nat) (A B:AS) (T:Int) (r:Nat->aa) (ls:List L3):Prop where
 le:∀i,i<n->(r i).bt<=T
 no:∀i,i<n->(r i).role≠2
 ln:∀i,i<n->(r i).line=(A.r i).line
 z:∀i,i<n->(r i).role=0\/(r i).bt=(B.r i).bt
 ls:∀y∈ls,(y.2.2.k=1/\aD n A y.1/\y.2.2.t=T/\y.2.2.a=(A.r y.1).line.last/\y.2.2.u=(bk (A.r y.1).line (A.r y.1).line.last).1)\/(y.2.2.k=2/\aD n A y.2.1)
 ts:∀i,i<n->aD n A i->(r i).ticks=0
 tn:∀i,i<n->¬aD n A i->((r i).ticks=(A.r i).ticks+1\/((r i).ticks=0/\∃c,aD n A c/\pE (A.r c).line (A.r i).line=true))/\((r i).bt=T->(r i).bf≠ -1->(r i).ticks=0)
theorem yo.step{T:Int}(m:Vw n k p ⟨r,(f,j,x)::l⟩)(hST:∀c,aD n A c->(B.r c).bt=T)(h:yo n A B T r ((f,j,x)::l)):wM n T (db r f j x)\/yo n A B T (db r f j x) (l++aQ j (han r f j x)):=by
 obtain⟨D,hf,R,a0,he⟩:=m.he;have C:=(iH m h.le).2;have b:db r f j x j=bM (han r f j x):=bB _ _ _;have H:(x.k=1/\aD n A f/\x.t=T/\x.a=(A.r f).line.last/\x.u=(bk (A.r f).line (A.r f).line.last).1)\/(x.k=2/\aD n A j):=h.ls _ List.mem_cons_self;by_cases I:(han r f j x).role=2
 ·left
  have w:(db r f j x j).role=2:=by rw[b];exact I
  rcases fy m D w with⟨W, -⟩ | ⟨-,b2,M, -,J, -⟩
  ·exact absurd W (h.no j D)
  ·refine⟨j,D,w,?_,C⟩;have S:aD n A j:=by
    rcases H with⟨g, -⟩ | ⟨-,g⟩
    ·omega
    ·exact g
   rw[J,<-hST j S];rcases kF m D (h.z j D) with U | U
   ·omega
   ·rw[J]at U;exact U
 ·right
  have o:¬(x.k=3\/x.k=5):=by rcases H with⟨g, -⟩ | ⟨g, -⟩<;>omega
  refine⟨C,fun i d=> ?_,fun i d=> ?_,fun i d=>kF m d (h.z i d),fun y v=> ?_,fun i d s=> ?_,fun i d s=> ?_⟩
  ·by_cases e:i=j
   ·subst e;rw[b];exact I
   ·rw[show db r f j x i=r i from di _ _ e];exact h.no i d
  ·by_cases e:i=j
   ·subst e;rw[b];show(han r f i x).line=_;rcases he.ln with g | ⟨g, -⟩ | ⟨g, -⟩
    ·rw[g];exact h.ln i d
    ·exact absurd g o
    ·exact absurd g I
   ·rw[show db r f j x i=r i from di _ _ e];exact h.ln i d
  ·rcases List.mem_append.1 v with v | v
   ·exact h.ls y (List.mem_cons_of_mem _ v)
   ·obtain⟨W,b2,M⟩:=cT m v;rcases M with⟨M,L,J⟩ | ⟨-,L, -⟩ | ⟨-,L, -⟩
    ·refine .inr ⟨M,?_⟩;rw[J];rcases H with⟨-,g, -⟩ | ⟨g, -⟩
     ·exact g
     ·omega
    ·exact absurd L o
    ·exact absurd L I
  ·by_cases e:i=j
   ·subst e;rw[b];show(han r f i x).ticks=0;rcases he.tk with g | ⟨g, -⟩
    ·rw[g];exact h.ts i d s
    ·exact g
   ·rw[show db r f j x i=r i from di _ _ e];exact h.ts i d s
  ·by_cases e:i=j
   ·subst e;obtain⟨g,h2⟩:=h.tn i d s;rcases H with⟨P,q,a1,O,N⟩ | ⟨-,q⟩
    ·obtain⟨yes,Z,Y,X,y4, -⟩:=jE (m.me i d) (m.nn i d) (m.out i d) hf R (m.right _ List.mem_cons_self) P (by have:=h.le i d;show(r i).bt<=x.t;omega);rw[b];show((han r f i x).ticks=_\/((han r f i x).ticks=0/\_))/\((han r f i x).bt=T->(han r f i x).bf≠ -1->(han r f i x).ticks=0)
     rw[show(han r f i x).ticks=_ from Y,show(han r f i x).bf=_ from X];cases yes with
     | true=>refine⟨.inr ⟨rfl,f,q,?_⟩,fun _ _=>rfl⟩;have F:=Z.symm;simp only[bJ,Bool.and_eq_true]at F;have F:=F.1.1.2;rw[O,N,h.ln i d]at F;exact F
     | false=>
      refine⟨g,fun _ G=> ?_⟩;simp only[Bool.false_eq_true,if_false]at G ⊢;by_cases V:(r i).bt<x.t
      ·rw[if_pos V]at G;exact absurd rfl G
      ·rw[if_neg V]at G;exact h2 (by have:=h.le i d;omega) G
    ·exact absurd q s
   ·rw[show db r f j x i=r i from di _ _ e];exact h.tn i d s
end
section
variable {n i j k c m cc p N b : Nat} {A A' B : AS} {R : aa} {f : Nat} {x : ax} {r : Nat -> aa} {l old new : List L3} {S : Nat -> Prop}
theorem nG{q:Nat->Bool}:∀m n:Nat,n<=m->(∀k,k<n->q k=true)->n<=ee m q
 | 0,n,h,_=>by omega
 | m+1,n,h,hq=>by
  rw[cY];by_cases e:n=m+1
  ·have a:=nG m m (Nat.le_refl _) (fun k b=>hq k (by omega));rw[if_pos (hq m (by omega))];omega
  ·have a:=nG m n (by omega) hq;omega
theorem wV{v:List Int}(c:v.length=7)(hv:∀x∈v,0<=x/\x<=1)(hn:n<=7)(h:∀j,j<n->v.getD j 0=1):(n:Int)<=ef v:=by have b:=qj v hv 7 (by omega);rw[List.take_of_length_le (by omega)]at b;have d:=nG (q:=fun k=>decide (v.getD k 0≠0)) 7 n hn (fun k a=>by rw[h k a];rfl);omega
theorem oW(h:f<7):eV (f:Int)=true:=by simp[eV];omega
structure EV (n:Nat) (A A':AS):Prop where
 ln:∀j,j<n->(A'.r j).line=(A.r j).line
 tk:∀j,j<n->¬aD n A j->(A'.r j).ticks=(A.r j).ticks+1\/((A'.r j).ticks=0/\∃c,aD n A c/\pE (A.r c).line (A.r j).line=true)
 sync:∀b,aD n A b->(∀j,j<n->pE (A.r b).line (A.r j).line=true)->∀j,j<n->(A'.r j).ticks=0
 lone:∀b,aD n A b->(∀j,j<n->pE (A.r b).line (A.r j).line=true)->¬∀c,aD n A c->c=b
theorem lf(c:Vw n k p ⟨r,(f,j,x)::l⟩)(h:(r i).ticks=0):(db r f j x i).ticks=0:=by
 obtain⟨g,m,d,b,he⟩:=c.he;by_cases e:i=j
 ·subst e;rw[show db r f i x i=bM (han r f i x) from bB _ _ _];show(han r f i x).ticks=0;rcases he.tk with a | ⟨a, -⟩
  ·rw[a];exact h
  ·exact a
 ·rw[show db r f j x i=r i from di _ _ e];exact h
theorem xK(h2:2<=n)(hN:N=4000)(h5:n<=5)(hm:m+10<=3990)(hk:k+5<=1000000)(hA:Kn n cc k 160 m A)(hc:cc+8010<=1000000)(hE:eE n A)(ha:fg n A)(hE':eE n (A.fair1 N n)):EV n A (A.fair1 N n):=by
 obtain⟨M,hM⟩:=ha;obtain⟨B,hBe⟩:∃B,B=AS.ticks n A:=⟨_,rfl⟩
 have hB:Kn n (cc+n) (k+n) (160+n) (m+2*n) B:=by rw[hBe];exact Kn.ticks h5 hm hk (by omega) (by omega) hA n (Nat.le_refl _)
 have T:TK n A B (aD n A):=by rw[hBe];exact jR (hA.vw h5) h2 (by omega)
 have hF:A.fair1 N n=B.dels N:=by rw[hBe];rfl
 rw[hF]at hE' ⊢;clear hBe hF;obtain⟨hl0,hno⟩:=hE;have hvB:=hB.vw h5;have Y:∀c,aD n A c->(B.r c).bt=M+1:=fun c X=>by rw[(T.st c X.1 X).2.2.2.1,hM c X.1]
 have hNS:∀c,c<n->¬aD n A c->(B.r c).bt=M:=fun c hcn X=>by rw[(T.ns c hcn X).2.1,hM c hcn]
 have hleB:∀i,i<n->(B.r i).bt<=M+1:=fun i s=>by
  by_cases e:aD n A i
  ·rw[Y i e];exact Int.le_refl _
  ·rw[hNS i s e];omega
 have hlnB:∀i,i<n->(B.r i).line=(A.r i).line:=fun i s=>by
  by_cases e:aD n A i
  ·exact(T.st i s e).2.2.2.2.2.1
  ·exact(T.ns i s e).2.2.1
 have hmem:∀y∈B.ls,y.2.2.k=1/\aD n A y.1/\y.2.2.t=M+1/\y.2.2.a=(A.r y.1).line.last/\y.2.2.u=(bk (A.r y.1).line (A.r y.1).line.last).1:=fun y D=>by
  rcases T.mem y D with g | ⟨g,C,R,h9,h10⟩ | ⟨-,g, -⟩
  ·rw[hl0]at g;cases g
  ·exact⟨g,C,by rw[R,Y _ C],h9,h10⟩
  ·exact absurd g (hno _ (hvB.f y D).1)
 have hR0:yo n A B (M+1) B.r B.ls:=⟨hleB,fun i s h=>by
   by_cases e:aD n A i
   ·have:=(T.st i s e).2.2.1;omega
   ·exact hno i s ((T.ns i s e).1 ▸ h),hlnB,fun i s=> .inr rfl,fun y D=> .inl (hmem y D),fun i s Z=>(T.st i s Z).2.2.2.2.1,fun i s Z=>⟨by
   rcases (T.ns i s Z).2.2.2.2.2 with⟨g, -⟩ | ⟨g, -⟩
   ·exact .inl g
   ·exact absurd g (hno i s),fun g=>by rw[hNS i s Z]at g;omega⟩⟩
 have hnoL:¬wM n (M+1) (B.dels N).r:=fun⟨j,z,g,_⟩=>hE'.2 j z g
 have hfin:=ev h5 (by omega) (by omega) (fun r ls=>wM n (M+1) r\/yo n A B (M+1) r ls) (fun f j x l r o hP=>by
  rcases hP with hP | hP
  ·exact .inl (hP.step o)
  ·exact hP.step o Y) N B (cc+n) hB (by omega) (.inr hR0)
 have hR9:yo n A B (M+1) (B.dels N).r (B.dels N).ls:=hfin.resolve_left hnoL;obtain⟨r0,L⟩:=B;have hb0:L.length<=160+n:=hvB.bag;have h00:Kn n (cc+n) (k+n) (160+n) (m+2*n) ⟨r0,L++ []⟩:=by rw[List.append_nil];exact hB
 have O:∀d,d<=N->(⟨r0,L⟩:AS).dels N=((⟨r0,L⟩:AS).dels d).dels (N-d):=fun d hd=>by rw[<-bZ,show d+(N-d)=N by omega]
 have V:∀d,d<=1000->¬wM n (M+1) ((⟨r0,L⟩:AS).dels d).r:=fun d hd g=>by refine hnoL ?_;rw[O d (by omega)];exact ev h5 (by omega) (by omega) (fun r ls=>wM n (M+1) r) (fun f j x l r o hP=>hP.step o) (N-d) _ _ (hB.dels h5 (by omega) (by omega) d _ _ (by omega)) (by omega) g
 refine⟨hR9.ln,fun j z Z=>(hR9.tn j z Z).1,fun b I H j z=> ?_,fun b I H U=> ?_⟩
 ·by_cases Z:aD n A j
  ·exact hR9.ts j z Z
  ·obtain⟨l1,r1,a1,a2,a3⟩:=round h5 (by omega) (by omega) (fun v new r=>wM n (M+1) r\/(yo n A ⟨r0,L⟩ (M+1) r (v++new)/\((r j).ticks=0\/∃x,(b,j,x)∈v)))
    (fun f i x v new r o G=>by
     rcases G with G | ⟨G,J⟩
     ·exact .inl (G.step o)
     ·have g:=G.step (p:=160+n) (k:=k+n) o Y;rcases g with g | g
      ·exact .inl g
      ·rw[List.append_assoc]at g;refine .inr ⟨g,?_⟩;obtain⟨s,hf,W,hxt,he⟩:=o.he;rcases J with J | ⟨S,J⟩
       ·exact .inl (lf o J)
       ·rcases List.mem_cons.1 J with e | J
        ·injection e with e1 e2;injection e2 with e2 e3;subst e1 e2 e3
         left
         have hx:=G.ls _ List.mem_cons_self;rcases hx with⟨hx1,hx2,hx3,hx4,hx5⟩ | ⟨hx1,hx2⟩
         ·have hx1:S.k=1:=hx1;have hx3:S.t=M+1:=hx3;obtain⟨yes,y1,y2, -⟩:=jE (o.me j z) (o.nn j z) (o.out j z) hf W (o.right _ List.mem_cons_self) hx1 (by have:=G.le j z;show(r j).bt<=S.t;omega);rw[show db r b j S j=bM (han r b j S) from bB _ _ _];show(han r b j S).ticks=0;rw[show(han r b j S).ticks=_ from y2];cases yes with
          | true=>rfl
          | false=>
           have hb:=H j z;rw[pE,<-G.ln j z]at hb;have hx4:S.a=(A.r b).line.last:=hx4;have hx5:S.u=(bk (A.r b).line (A.r b).line.last).1:=hx5;show(r j).ticks=0;have hw:=oW (f:=b) (by omega);rw[hx4,hx5]at y1;simp only[bJ,hw,hb,Bool.true_and]at y1;by_cases C:(r j).bt<S.t
           ·rw[if_pos C]at y1;simp at y1
           ·rw[if_neg C]at y1;simp at y1;exact(G.tn j z Z).2 (by have:=G.le j z;omega) y1.2
         ·exact absurd hx2 Z
        ·exact .inr ⟨S,J⟩) L [] r0 (cc+n) h00 (by omega) (.inr ⟨by rw[List.append_nil];exact hR0, .inr (by
     obtain⟨x,g, -⟩:=(T.st b I.1 I).2.2.2.2.2.2.2.2 j z (fun e=>Z (e ▸ I));exact⟨x,g⟩)⟩)
   rw[List.append_nil]at a1;have g:(r1 j).ticks=0:=by
    rcases a2 with g | ⟨-,g | ⟨x,g⟩⟩
    ·exfalso;refine V L.length (by omega) ?_;rw[a1];exact g
    ·exact g
    ·cases g
   rw[O L.length (by omega),a1];exact ev h5 (by omega) (by omega) (fun r ls=>(r j).ticks=0) (fun f i x l r o hP=>lf o hP) (N-L.length) ⟨r1,l1⟩ _ a3 (by omega) g
 ·
  have hbn:=I.1;have hst:=T.st b hbn I;obtain⟨l1,r1,a1,a2,a3⟩:=round h5 (by omega) (by omega) (fun v new r=>(r b).role=1/\(r b).bt=M+1/\(r b).votes=aW.set b 1/\(∀y∈v,y.1=b/\y.2.1≠b/\y.2.2.k=1/\y.2.2.t=M+1/\y.2.2.a=(A.r b).line.last/\y.2.2.u=(bk (A.r b).line (A.r b).line.last).1)/\(∀y∈new,y.2.1=b/\y.2.2.k=2/\y.2.2.y=true/\y.2.2.t=M+1)/\(∀j,j<n->(r j).bt<=M+1)/\(∀j,j<n->j≠b->(r j).line=(A.r j).line/\((r j).bt<M+1\/(r j).bf=b))/\∀j,j<n->j≠b->(∃x,(b,j,x)∈v)\/∃y,(j,b,y)∈new)
   (fun f i x v new r o G=>by
    obtain⟨q1,q2,q3,q4,q5,q9,q6,q7⟩:=G;obtain⟨c1,c2,c3,c4,c5,c6⟩:=q4 _ List.mem_cons_self;have c1:f=b:=c1;subst c1;have c2:i≠f:=c2;have c3:x.k=1:=c3;have c4:x.t=M+1:=c4;have c5:x.a=_:=c5;have c6:x.u=_:=c6;obtain⟨s,hf,W,hxt,he⟩:=o.he;have hle:=(iH o q9).2;obtain⟨d1,d2⟩:=q6 i s c2;obtain⟨yes,y1,y2,y3,y4,y5,y6⟩:=jE (o.me i s) (o.nn i s) (o.out i s) hf W (o.right _ List.mem_cons_self) c3 (by have:=q9 i s;show(r i).bt<=x.t;omega);have hb:=H i s;rw[pE,<-d1]at hb;have hw:=oW (f:=f) (by omega);have hyes:yes=true:=by
     rw[c5,c6]at y1;rw[y1];simp only[bJ,hw,hb,Bool.true_and];by_cases C:(r i).bt<x.t
     ·rw[if_pos C];simp
     ·rw[if_neg C];rcases d2 with d2 | d2
      ·omega
      ·show(decide _ && (decide ((r i).bf=(f:Int)) || _))=true;rw[d2];simp
    subst hyes;have w:db r f i x i=bM (han r f i x):=bB _ _ _;have P:∀q,q≠i->db r f i x q=r q:=fun q hq=>di _ _ hq
    have houts:aQ i (han r f i x)= [(i,f,⟨2,x.t,0,0,0,true,[],[]⟩)]:=by
     unfold aQ;rw[show(han r f i x).out=_ from y5]
     simp
    rw[P f (fun e=>c2 e.symm),houts];refine⟨q1,q2,q3,fun y D=>q4 y (List.mem_cons_of_mem _ D),fun y D=> ?_,hle,fun q hq hqb=> ?_,fun q hq hqb=> ?_⟩
    ·rcases List.mem_append.1 D with D | D
     ·exact q5 y D
     ·rw[List.mem_singleton]at D;subst D;exact⟨rfl,rfl,rfl,c4⟩
    ·by_cases e:q=i
     ·subst e;rw[w];exact⟨(show(han r f q x).line=_ from y6).trans d1, .inr (show(han r f q x).bf=_ from y3)⟩
     ·rw[P q e];exact q6 q hq hqb
    ·by_cases e:q=i
     ·subst e;exact .inr ⟨_,List.mem_append_right _ (List.mem_singleton.2 rfl)⟩
     ·rcases q7 q hq hqb with⟨x',C⟩ | ⟨y,C⟩
      ·rcases List.mem_cons.1 C with R | R
       ·injection R with R h9;injection h9 with h9 _;exact absurd h9 e
       ·exact .inl ⟨x',R⟩
      ·exact .inr ⟨y,List.mem_append_left _ C⟩) L [] r0 (cc+n) h00 (by omega) ⟨hst.2.2.1,Y b I,hst.2.2.2.2.2.2.2.1,fun y D=>by
     obtain⟨g,C,R,h9,h10⟩:=hmem y D;have e:=U _ C;rw[e]at h9 h10;have h11:=(hvB.f y D).2.2;exact⟨e,fun e2=>h11 (by rw[e,e2]),g,R,h9,h10⟩,fun y D=>(by cases D),hleB,fun j z hjb=>⟨hlnB j z, .inl (by
     have:=hNS j z (fun h=>hjb (U j h));show(r0 j).bt<_;have this:(r0 j).bt=M:=this;omega)⟩,fun j z hjb=>by
     obtain⟨x,g, -⟩:=hst.2.2.2.2.2.2.2.2 j z hjb;exact .inl ⟨x,g⟩⟩
  rw[List.append_nil]at a1;obtain⟨q1,q2,q3, -,q5,q9,q6,q7⟩:=a2;have hb1:l1.length<=160+n:=(a3.vw h5).bag;have h01:Kn n (cc+n+L.length) (k+n) (160+n) (m+2*n) ⟨r1,l1++ []⟩:=by rw[List.append_nil];exact a3
  have hen:bD (n:Int)=(n:Int) / 2+1:=by unfold bD;rw[if_neg (by omega)]
  obtain⟨l2,r2,b1,b2,b3⟩:=round h5 (by omega) (by omega) (fun v new r=>wM n (M+1) r\/((r b).role=1/\(r b).bt=M+1/\(∀j,j<n->(r j).bt<=M+1)/\¬bD (n:Int)<=ef (r b).votes/\(∀y∈v,y.2.1=b/\y.2.2.k=2/\y.2.2.y=true/\y.2.2.t=M+1)/\∀j,j<n->(r b).votes.getD j 0=1\/∃y,(j,b,y)∈v))
   (fun f i x v new r o G=>by
    rcases G with G | ⟨w1,w2,w3,w4,w5,w6⟩
    ·exact .inl (G.step o)
    ·obtain⟨c1,c2,c3,c4⟩:=w5 _ List.mem_cons_self;have c1:i=b:=c1;subst c1;have c2:x.k=2:=c2;have c3:x.y=true:=c3;have c4:x.t=M+1:=c4;obtain⟨s,hf,W,hxt,he⟩:=o.he;have hle:=(iH o w3).2;have w:db r f i x i=bM (han r f i x):=bB _ _ _;have hsu:(r i).stepUp x.t=r i:=by rw[dZ,if_neg (by omega)]
     have F:=cR (o.me i s) (o.nn i s) hf W (o.right _ List.mem_cons_self);have F:HC ((r i).stepUp x.t) f x (han r f i x):=F;rw[hsu]at F;have hT:han r f i x=(r i).count f:=by
      cases F with
      | ask yes nw hk'=>omega
      | vote hk' hr ht' D e=>exact e
      | still e hh=>
       rcases hh with⟨-,g⟩ | ⟨g, -⟩ | ⟨g, -⟩
       ·exact absurd ⟨w1,by omega,c3⟩ g
       ·omega
       ·omega
      | refuse hk'=>omega
      | follow hk'=>omega
      | got hk'=>omega
     have hv7:(r i).votes.length=7:=(o.ok i s).v7;have hnn:(r i).n=(n:Int):=o.nn i s;have hmm:(r i).me=(i:Int):=o.me i s;rcases fU hmm hnn f with⟨d1,d2⟩ | ⟨d1,ll,nw,mm,ccm,T0, -, -,d2,d3⟩
     ·right
      rw[w,hT,d2];rw[hnn]at d1;have hvo:(bM { r i with votes:=(r i).votes.set f 1 }).votes=(r i).votes.set f 1:=rfl;refine⟨w1,w2,hle,by rw[hvo];exact d1,fun y D=>w5 y (List.mem_cons_of_mem _ D),fun q hq=> ?_⟩;rw[hvo,bi _ _ _ _ (by omega)];by_cases e:q=f
      ·left;rw[if_pos e]
      ·rw[if_neg e];rcases w6 q hq with g | ⟨y,g⟩
       ·exact .inl g
       ·rcases List.mem_cons.1 g with C | C
        ·injection C with C _;exact absurd C e
        ·exact .inr ⟨y,C⟩
     ·left
      refine⟨i,s,?_,?_,hle⟩
      ·rw[w,hT,d3,d2];rfl
      ·rw[w,hT,d3,d2];exact w2) l1 [] r1 (cc+n+L.length) h01 (by omega) (.inr ⟨q1,q2,q9,by
     rw[q3,mF b (by omega),hen];omega,q5,fun j z=>by
     by_cases e:j=b
     ·subst e
      left
      rw[q3,bi _ _ _ _ (by show j<7;omega),if_pos rfl]
     ·rcases q7 j z e with⟨x,g⟩ | g
      ·cases g
      ·exact .inr g⟩)
  rw[List.append_nil]at b1;have hL:wM n (M+1) r2:=by
   rcases b2 with g | ⟨w1,w2,w3,w4, -,w6⟩
   ·exact g
   ·exfalso;have hok:=(b3.vw h5).ok b hbn;have C:=wV hok.v7 hok.vs (n:=n) (by omega) (fun j z=>by
     rcases w6 j z with R | ⟨y,R⟩
     ·exact R
     ·cases R)
    have C:(n:Int)<=ef (r2 b).votes:=C;rw[hen]at w4;omega
  refine V (L.length+l1.length) (by omega) ?_;rw[bZ,a1,b1];exact hL
end
section
variable {n i j k c m cc p N b : Nat} {A A' B : AS} {R : aa} {f : Nat} {x : ax} {r : Nat -> aa}
theorem lN(a:ET n A A')(h:fg n A):fg n A':=by
 obtain⟨M,f⟩:=h;by_cases e:∃c,aD n A c
 ·obtain⟨c,e⟩:=e;refine⟨M+1,fun j b=> ?_⟩;have k:=a.q3 c e j b;rw[f c e.1]at k;have l:=a.q4 (M+1) (fun q g=>by rw[f q g];omega) (fun d i=>by rw[f d i.1];exact Int.le_refl _) j b;omega
 ·refine⟨M,fun j b=> ?_⟩;have k:=a.mono j b;rw[f j b]at k;have l:=a.q4 M (fun q g=>by rw[f q g];exact Int.le_refl _) (fun d i=>absurd ⟨d,i⟩ e) j b;omega
def nW(n:Nat)(L:Nat->ae)(A:AS):Prop:=∀j,j<n->(A.r j).line=L j
theorem xU(y:2<=n)(hN:N=4000)(h5:n<=5){A:AS}{cc k m:Nat}{L:Nat->ae}(w:m+290<=3990)(hk:k+145<=1000000)(hc:cc+120290<=1000000)(hA:Kn n cc k 160 m A)(hE:eE n A)(ha:fg n A)(hL:nW n L A)(hbn:b<n)(hb:∀j,j<n->pE (L b) (L j)=true):
  (∃t,t<=28/\ga n (AS.fairs N n t A)/\Kn n (cc+4005*t) (k+5*t) 165 (m+10*t) (AS.fairs N n t A))\/∃t,t<=28/\eE n (AS.fairs N n t A)/\(fg n (AS.fairs N n t A)/\nW n L (AS.fairs N n t A)/\∀j,j<n->((AS.fairs N n t A).r j).ticks=0)/\Kn n (cc+4005*t) (k+5*t) 160 (m+10*t) (AS.fairs N n t A):=by
 refine sX y hN h5 (P:=fun A=>fg n A/\nW n L A/\∀j,j<n->(A.r j).ticks=0) (I:=fun d A=>fg n A/\nW n L A/\28<=(A.r b).ticks+d) (fun A cc k m hA hE f=> ?_) (fun d A cc k m w hk hc hA hE v p f=> ?_) 28 (by omega) (by omega) (by omega) hA hE ⟨ha,hL,?_⟩
 ·obtain⟨-, -,f⟩:=f;have o:=((hA.vw h5).q b hbn).tf (hE.2 b hbn);simp only[Int.natCast_zero]at f;omega
 ·obtain⟨ha,hL,f⟩:=f;have e:=xK y hN h5 w hk hA hc hE ha v;have i:=lN p ha;have l:nW n L (A.fair1 N n):=fun j a=>(e.ln j a).trans (hL j a)
  by_cases g:∃c,aD n A c/\∀j,j<n->pE (L c) (L j)=true
  ·obtain⟨c,g,s⟩:=g;exact .inl ⟨i,l,e.sync c g (fun j a=>by rw[hL c g.1,hL j a];exact s j a)⟩
  ·right
   refine⟨i,l,?_⟩;rcases e.tk b hbn (fun h=>g ⟨b,h,hb⟩) with o | ⟨-,c,o,x⟩
   ·rw[o];push_cast at f;omega
   ·rw[hL c o.1,hL b hbn]at x;exact absurd ⟨c,o,fun j a=>kM x (hb j a)⟩ g
 ·have:=((hA.vw h5).ok b hbn).tk0;show(28:Int)<=(A.r b).ticks+((28:Nat):Int)
  omega
theorem xT(G:2<=n)(hN:N=4000)(h5:n<=5){A:AS}{cc k m:Nat}{L:Nat->ae}(F:m+290<=3990)(hk:k+145<=1000000)(hc:cc+120290<=1000000)(hA:Kn n cc k 160 m A)(hE:eE n A)(ha:fg n A)(hL:nW n L A)(hbn:b<n)(hb:∀j,j<n->pE (L b) (L j)=true)(ht:∀j,j<n->(A.r j).ticks=0):
  ∃t,t<=28/\ga n (AS.fairs N n t A)/\Kn n (cc+4005*t) (k+5*t) 165 (m+10*t) (AS.fairs N n t A):=by
 have z:=sX G hN h5 (P:=fun _=>False) (I:=fun d A=>fg n A/\nW n L A/\∃s:Nat,s+d=28/\(∀j,j<n->(A.r j).ticks=s\/(A.r j).ticks+20<=s)/\(A.r b).ticks=s) (fun A cc k m hA hE C=>by
   obtain⟨-, -,s,g, -,v⟩:=C;have p:=((hA.vw h5).q b hbn).tf (hE.2 b hbn);omega) (fun d A cc k m F hk hc hA hE D x C=>by
   obtain⟨ha,hL,s,J,o,B⟩:=C;have l:=xK G hN h5 F hk hA hc hE ha D;have H:=hA.vw h5;have i:∀j,aD n A j->(s:Int)+1=20+2*j:=fun j a=>by have g:=(H.q j a.1).tf (hE.2 j a.1);have v:=a.2.2;rcases o j a.1 with p | p<;>omega
   have w:∀j,aD n A j->∀c,aD n A c->c=j:=fun j a c e=>by have g:=i j a;have v:=i c e;omega
   have f:∀c,aD n A c->¬∀j,j<n->pE (L c) (L j)=true:=fun c e g=>l.lone c e (fun j a=>by rw[hL c e.1,hL j a];exact g j a) (w c e)
   right
   refine⟨lN x ha,fun j a=>(l.ln j a).trans (hL j a),s+1,by omega,fun j a=> ?_,?_⟩
   ·by_cases y:aD n A j
    ·right
     rw[x.q2s j y];have:=i j y;push_cast;omega
    ·rcases l.tk j a y with g | ⟨g,c,v, -⟩
     ·rw[g];rcases o j a with p | p
      ·left;push_cast;omega
      ·right;push_cast;omega
     ·right
      rw[g];have:=i c v;push_cast;omega
   ·have y:¬aD n A b:=fun h=>f b h hb
    rcases l.tk b hbn y with g | ⟨-,c,v,p⟩
    ·rw[g,B];push_cast;rfl
    ·exfalso;rw[hL c v.1,hL b hbn]at p;exact f c v (fun j a=>kM p (hb j a))) 28 (A:=A) (cc:=cc) (k:=k) (m:=m) (by omega) (by omega) (by omega) hA hE ⟨ha,hL,0,by omega,fun j a=> .inl (ht j a),ht b hbn⟩
 rcases z with z | ⟨t, -, -,z, -⟩
 ·exact z
 ·exact z.elim
theorem xr(e:2<=n)(hN:N=4000)(h5:n<=5){A:AS}{cc k p m:Nat}(T:m+2000<=3990)(hp:p+35<=1000)(hk:k+1000<=1000000)(hc:cc+500000<=1000000)(hA:Kn n cc k p m A):
  ∃t p' m',t<=110/\ga n (AS.fairs N n t A)/\Kn n (cc+4005*t) (k+5*t) p' m' (AS.fairs N n t A)/\((t=6/\p'=p+30/\m'=m+60)\/(p'=165/\m'=m+10*t)):=by
 have g:=Kn.fairs hN h5 6 (A:=A) (cc:=cc) (k:=k) (p:=p) (m:=m) (by omega) (by omega) (by omega) (by omega) hA;rcases tY e hN h5 (by omega) (by omega) (by omega) hA (by omega) with i | i
 ·exact⟨6,_,_,by omega,i,g, .inl ⟨rfl,rfl,rfl⟩⟩
 ·have g:=g.rebase h5 i.1;have a:∀t,t<=104->ga n (AS.fairs N n t (AS.fairs N n 6 A))/\Kn n (cc+4005*6+4005*t) (k+5*6+5*t) 165 (m+10*6+10*t) (AS.fairs N n t (AS.fairs N n 6 A))->∃t p' m',t<=110/\ga n (AS.fairs N n t A)/\Kn n (cc+4005*t) (k+5*t) p' m' (AS.fairs N n t A)/\((t=6/\p'=p+30/\m'=m+60)\/(p'=165/\m'=m+10*t)):=fun t S h=>by
   obtain⟨h,f⟩:=h;rw[<-cQ]at h f;exact⟨6+t,165,_,by omega,h,f.up (by omega) (by omega) (Nat.le_refl _) (by omega), .inr ⟨rfl,rfl⟩⟩
  rcases xW e hN h5 (by omega) (by omega) (by omega) g i with⟨t0,O,B,F⟩ | ⟨t0,O,I,⟨c0,c1⟩,x⟩
  ·exact a t0 (by omega) ⟨B,F⟩
  ·rcases xV e hN h5 (by omega) (by omega) (by omega) x I c1 with⟨b,M,f,l⟩ | ⟨b,M,H,R,w⟩
   ·rw[<-cQ]at f l;exact a (t0+b) (by omega) ⟨f,l.up (by omega) (by omega) (Nat.le_refl _) (by omega)⟩
   ·obtain⟨U,c,d⟩:=qJ (fun j=>((AS.fairs N n b (AS.fairs N n t0 (AS.fairs N n 6 A))).r j).line) n (by omega);rcases xU e hN h5 (L:=fun j=>((AS.fairs N n b (AS.fairs N n t0 (AS.fairs N n 6 A))).r j).line) (by omega) (by omega) (by omega) w H R (fun j _=>rfl) c d with⟨t3,J,z,D⟩ | ⟨t3,J,G,⟨P,s,o⟩,v⟩
    ·refine a (t0+(b+t3)) (by omega) ?_;rw[cQ,cQ];exact⟨z,D.up (by omega) (by omega) (Nat.le_refl _) (by omega)⟩
    ·obtain⟨q,V,y,C⟩:=xT e hN h5 (by omega) (by omega) (by omega) v G P s c d o;refine a (t0+(b+(t3+q))) (by omega) ?_;rw[cQ,cQ,cQ];exact⟨y,C.up (by omega) (by omega) (Nat.le_refl _) (by omega)⟩
end
def vL(last base:Int)(x:ax):Nat:=
 if x.k=1 then 16 else if x.k=2 then 8
 else if x.k=3 then(last-x.a).toNat+16+(if (x.its.length:Int)<16/\x.a+x.its.length<last then 16 else 0)+(if x.a+x.its.length<base then 40 else 0)
 else if x.k=5 then(last-x.a).toNat+32+(if x.a<base then 40 else 0)
 else if x.y=true then(if x.a<last then(last-x.a).toNat+24 else 8)+(if x.a<base then 40 else 0)
 else(last-x.o).toNat+8
def dL(n L:Nat)(R:aa):Nat:=((bh n L).map fun f=>40*(R.nxt.getD f 0-(R.mat.getD f 0+1)).toNat).sum
def phi(n L:Nat)(A:AS):Nat:=(A.ls.map fun y=>vL (A.r L).line.last (A.r L).line.base y.2.2).sum+dL n L (A.r L)
section
variable {n i j k c m cc p N L : Nat} {A A' B : AS} {R : aa} {f : Nat} {x : ax} {r : Nat -> aa} {l : List L3} {T t last base : Int}
theorem xR(h:x.k=1):vL last base x=16:=by unfold vL;rw[if_pos h]
theorem xQ(h:x.k=2):vL last base x=8:=by unfold vL;rw[if_neg (by omega),if_pos h]
theorem lV(h:x.k=3):vL last base x=(last-x.a).toNat+16+(if (x.its.length:Int)<16/\x.a+x.its.length<last then 16 else 0)+(if x.a+x.its.length<base then 40 else 0):=by unfold vL;rw[if_neg (by omega),if_neg (by omega),if_pos h]
theorem pj(h:x.k=5):vL last base x=(last-x.a).toNat+32+(if x.a<base then 40 else 0):=by unfold vL;rw[if_neg (by omega),if_neg (by omega),if_neg (by omega),if_pos h]
theorem rM(h:x.k=4)(hy:x.y=true):vL last base x=(if x.a<last then(last-x.a).toNat+24 else 8)+(if x.a<base then 40 else 0):=by unfold vL;rw[if_neg (by omega),if_neg (by omega),if_neg (by omega),if_neg (by omega),if_pos hy]
theorem uT(h:x.k=4)(hy:x.y=false):vL last base x=(last-x.o).toNat+8:=by unfold vL;rw[if_neg (by omega),if_neg (by omega),if_neg (by omega),if_neg (by omega),if_neg (by rw[hy];simp)]
theorem rN:8<=vL last base x:=by
 unfold vL;split
 ·omega
 ·split
  ·omega
  ·split
   ·omega
   ·split
    ·omega
    ·split
     ·split<;>omega
     ·omega
theorem mg(e:R.line.Good){x0:Int}(c:R.nxt.getD f 0=x0)(h1:x0<=R.line.last):(x0<=R.line.base->vL R.line.last R.line.base (R.nextL f)=(R.line.last-R.line.base).toNat+32)/\(R.line.base<x0->vL R.line.last R.line.base (R.nextL f)=(R.line.last-(x0-1)).toNat+16):=by
 unfold aa.nextL;rw[c];have d:R.line.last=R.line.base+(R.line.l.length:Int):=rfl;refine⟨fun b=> ?_,fun b=> ?_⟩
 ·rw[if_pos b,pj rfl];show(R.line.last-R.line.base).toNat+32+(if R.line.base<R.line.base then 40 else 0)=_;rw[if_neg (by omega)]
 ·rw[if_neg (by omega),lV rfl];have a:((R.line.from_ (x0-1+1) 16).length:Int)=min 16 (R.line.last-(x0-1)):=by
   unfold ae.from_;rw[if_neg (by omega),List.length_take,List.length_drop];omega
  show(R.line.last-(x0-1)).toNat+16+(if ((R.line.from_ (x0-1+1) 16).length:Int)<16/\(x0-1)+((R.line.from_ (x0-1+1) 16).length:Int)<R.line.last then 16 else 0)+(if (x0-1)+((R.line.from_ (x0-1+1) 16).length:Int)<R.line.base then 40 else 0)=_;rw[a,if_neg (by omega),if_neg (by omega)]
theorem pu{u u':Nat->Nat}{d:Nat}:∀(l:List Nat) (f:Nat),f∈l->(∀g∈l,u' g<=u g)->u' f+d<=u f->(l.map u').sum+d<=(l.map u).sum
 | [],f,h,_,_=>by cases h
 | x::l,f,h,hle,hf=>by
  have i:∀l:List Nat,(∀g∈l,u' g<=u g)->(l.map u').sum<=(l.map u).sum:=fun l=>by
   induction l with
   | nil=>intro _;exact Nat.le_refl _
   | cons y l ih=>intro h;have c:=ih (fun g a=>h g (List.mem_cons_of_mem _ a));have b:=h y List.mem_cons_self;simp only[List.map_cons,List.sum_cons];omega
  simp only[List.map_cons,List.sum_cons];by_cases e:f=x
  ·subst e;have:=i l (fun g a=>hle g (List.mem_cons_of_mem _ a));omega
  ·rcases List.mem_cons.1 h with h | h
   ·exact absurd h e
   ·have c:=pu l f h (fun g a=>hle g (List.mem_cons_of_mem _ a)) hf;have b:=hle x List.mem_cons_self;omega
theorem xp(J:R.line.Good)(hL:L<n)(hm:R.me=L)(hn:R.n=n)(h5:n<=5)(hr:R.role=2)(ho:R.out= [])(hm7:R.mat.length=7)(hx7:R.nxt.length=7)(hf:f<n)(hfL:f≠L)(hk:x.k=4)(ht:x.t=R.bt)(ha:0<=x.a)(hmat:0<=R.mat.getD f 0)
 (O:R.mat.getD f 0+1<=R.nxt.getD f 0)(hnl:R.nxt.getD f 0<=R.line.last+1):
  (R.got f x).line=R.line/\((aQ L (R.got f x)).map fun y=>vL R.line.last R.line.base y.2.2).sum+dL n L (R.got f x)+8<=vL R.line.last R.line.base x+dL n L R:=by
 have I:=rN (last:=R.line.last) (base:=R.line.base) (x:=x);have Y:R.line.last=R.line.base+(R.line.l.length:Int):=rfl;have s:f∈bh n L:=cd.2 ⟨hf,hfL⟩;have q:∀S:aa,S.out= []->aQ L S= []:=fun S h=>by unfold aQ;rw[h];rfl
 have p:∀(S:aa) (y:ax),S.out= [((f:Int),y)]->((aQ L S).map fun y=>vL R.line.last R.line.base y.2.2).sum=vL R.line.last R.line.base y:=fun S y h=>by unfold aQ;rw[h];simp
 unfold aa.got;rw[if_neg (by intro h;rcases h with h | h;exact h hr;exact h ht)];simp only[Int.toNat_natCast];by_cases H:x.y=true/\x.a<=R.line.last
 ·rw[if_pos H];obtain⟨m,c,X,W, -⟩:=ch ({ R with mat:=R.mat.set f (max (R.mat.getD f 0) x.a),nxt:=R.nxt.set f (max (R.nxt.getD f 0) (x.a+1)) }:aa);rw[X];have N:m=(R.mat.set f (max (R.mat.getD f 0) x.a)).set L R.line.last:=by
   rw[W];show(R.mat.set f _).set R.me.toNat _=_;rw[hm];rfl
  have M:∀S:aa,S.mat=m->S.nxt=R.nxt.set f (max (R.nxt.getD f 0) (x.a+1))->dL n L S<=dL n L R:=fun S V U=>by
   unfold dL;rw[V,U];have C:=pu (d:=0) (u:=fun f=>40*(R.nxt.getD f 0-(R.mat.getD f 0+1)).toNat) (u':=fun g=>40*((R.nxt.set f (max (R.nxt.getD f 0) (x.a+1))).getD g 0-(m.getD g 0+1)).toNat) (bh n L) f s (fun g A=>by
    obtain⟨P,F⟩:=cd.1 A;rw[bi _ _ _ _ (by omega),N,bi _ _ _ _ (by rw[List.length_set];omega),if_neg F,bi _ _ _ _ (by omega)];by_cases e:g=f
    ·subst e;rw[if_pos rfl,if_pos rfl];omega
    ·rw[if_neg e,if_neg e];exact Nat.le_refl _) (by
    rw[bi _ _ _ _ (by omega),N,bi _ _ _ _ (by rw[List.length_set];omega),if_neg hfL,bi _ _ _ _ (by omega),if_pos rfl,if_pos rfl];omega)
   exact C
  have j:(R.nxt.set f (max (R.nxt.getD f 0) (x.a+1))).getD f 0=max (R.nxt.getD f 0) (x.a+1):=by rw[bi _ _ _ _ (by omega),if_pos rfl]
  by_cases z:max (R.nxt.getD f 0) (x.a+1)<=R.line.last
  ·rw[if_pos (by show(R.nxt.set f _).getD f 0<=R.line.last;rw[j];exact z),ei];refine⟨rfl,?_⟩;obtain⟨Q,i⟩:∃Q:aa,Q={ R with mat:=m,nxt:=R.nxt.set f (max (R.nxt.getD f 0) (x.a+1)),commit:=c }:=⟨_,rfl⟩
   rw[<-i];have b:Q.line=R.line:=by rw[i]
   have v:Q.out= []:=by rw[i];exact ho
   rw[p _ (Q.nextL f) (by show Q.out++_=_;rw[v];rfl)];have T:=M { Q with out:=Q.out++ [((f:Int),Q.nextL f)] } (by rw[i]) (by rw[i]);have w:=mg (R:=Q) (f:=f) (by rw[b];exact J) (x0:=max (R.nxt.getD f 0) (x.a+1)) (by rw[i];exact j) (by rw[b];exact z);rw[b]at w;have B:vL R.line.last R.line.base x=(R.line.last-x.a).toNat+24+(if x.a<R.line.base then 40 else 0):=by rw[rM hk H.1,if_pos (by omega)]
   by_cases C:max (R.nxt.getD f 0) (x.a+1)<=R.line.base
   ·rw[w.1 C,B,if_pos (by omega)];omega
   ·rw[w.2 (by omega),B];have:(0:Nat)<=(if x.a<R.line.base then 40 else 0):=Nat.zero_le _;omega
  ·rw[if_neg (by show ¬(R.nxt.set f _).getD f 0<=R.line.last;rw[j];exact z)];refine⟨rfl,?_⟩;rw[q { R with mat:=m,nxt:=R.nxt.set f (max (R.nxt.getD f 0) (x.a+1)),commit:=c } ho];have T:=M { R with mat:=m,nxt:=R.nxt.set f (max (R.nxt.getD f 0) (x.a+1)),commit:=c } rfl rfl;simp only[List.map_nil,List.sum_nil];omega
 ·rw[if_neg H];by_cases z:x.y=false/\x.o=R.nxt.getD f 0-1/\R.mat.getD f 0<x.o
  ·rw[if_pos z,ei];refine⟨rfl,?_⟩;obtain⟨r,D⟩:∃r,r=max (R.mat.getD f 0+1) (min (x.a+1) x.o):=⟨_,rfl⟩
   rw[<-D];obtain⟨Q,i⟩:∃Q:aa,Q={ R with nxt:=R.nxt.set f r }:=⟨_,rfl⟩
   rw[<-i];have b:Q.line=R.line:=by rw[i]
   have v:Q.out= []:=by rw[i];exact ho
   have j:Q.nxt.getD f 0=r:=by rw[i];show(R.nxt.set f r).getD f 0=r;rw[bi _ _ _ _ (by omega),if_pos rfl]
   rw[p _ (Q.nextL f) (by show Q.out++_=_;rw[v];rfl)];have w:=mg (R:=Q) (f:=f) (by rw[b];exact J) j (by rw[b];omega);rw[b]at w;have B:=uT (last:=R.line.last) (base:=R.line.base) hk z.1;have C:dL n L { Q with out:=Q.out++ [((f:Int),Q.nextL f)] }+40*(R.nxt.getD f 0-r).toNat<=dL n L R:=by
    unfold dL;rw[i];refine pu (d:=40*(R.nxt.getD f 0-r).toNat) (u:=fun f=>40*(R.nxt.getD f 0-(R.mat.getD f 0+1)).toNat) (u':=fun g=>40*((R.nxt.set f r).getD g 0-(R.mat.getD g 0+1)).toNat) (bh n L) f s (fun g A=> ?_) ?_
    ·rw[bi _ _ _ _ (by omega)];by_cases e:g=f
     ·subst e;rw[if_pos rfl];omega
     ·rw[if_neg e];exact Nat.le_refl _
    ·rw[bi _ _ _ _ (by omega),if_pos rfl];omega
   by_cases G:r<=R.line.base
   ·rw[w.1 G,B];omega
   ·rw[w.2 (by omega),B];omega
  ·rw[if_neg z];refine⟨rfl,?_⟩;rw[q _ ho];simp only[List.map_nil,List.sum_nil];omega
end
section
variable {n i j k c m cc p N L : Nat} {A A' B : AS} {R S : aa} {f : Nat} {x : ax} {r : Nat -> aa} {l : List L3} {T t last base : Int}
structure oz (n L:Nat) (T:Int) (r:Nat->aa):Prop where
 ln:L<n
 role:(r L).role=2
 bt:(r L).bt=T
 all:∀j,j<n->j≠L->(r j).bt=T/\(r j).role=0/\(r j).lead=L
theorem de.stb(h:de n L T t r):oz n L T r:=⟨h.ln,h.role,h.bt,fun j a b=>⟨(h.all j a b).1,(h.all j a b).2.1,(h.all j a b).2.2.1⟩⟩
theorem oz.le(h:oz n L T r):∀j,j<n->(r j).bt<=T:=fun j a=>by
 by_cases e:j=L
 ·subst e;rw[h.bt];exact Int.le_refl _
 ·rw[(h.all j a e).1];exact Int.le_refl _
theorem oz.step(h:oz n L T r)(hv:Vw n k p ⟨r,(f,j,x)::l⟩):oz n L T (db r f j x):=by obtain⟨m,g, -⟩:=lead_step hv h.ln h.le h.role h.bt rfl;refine⟨h.ln,m,g,fun i a e=> ?_⟩;obtain⟨d,c,b⟩:=h.all i a e;obtain⟨c1,c2,c3, -⟩:=kW (t:=40) hv h.ln h.le h.role h.bt (by omega) a ⟨d,c,b,(hv.ok i a).tk1⟩;exact⟨c1,c2,c3⟩
theorem oz.dels(a:n<=5)(hm:m<=3990)(hp:p<=1900):∀(d:Nat) (A:AS) (cc:Nat),Kn n cc k p m A->cc+d<=1000000->oz n L T A.r->oz n L T (A.dels d).r
 | 0,A,cc,_,_,h=>h
 | d+1,A,cc,hl,hc,h=>by
  refine oz.dels a hm hp d A.del (cc+1) (hl.del a (by omega) hm hp) (by omega) ?_;obtain⟨r,b⟩:=A;cases b with
  | nil=>exact h
  | cons y l=>obtain⟨f,j,x⟩:=y;exact h.step (hl.vw a)
theorem ke{S:aa}(h:S.out= []):aQ j S= []:=by unfold aQ;rw[h];rfl
theorem eS{S:aa}{i:Int}{y:ax}(h:S.out= [(i,y)]):aQ j S= [(j,i.toNat,y)]:=by unfold aQ;rw[h];rfl
theorem vR(p:base<=last)(ho:S.out= [])(hk:x.k=3\/x.k=5){T:aa}(e:T=if x.k=3 then S.sent1 f x else S.given1 f x):((aQ j T).map fun y=>vL last base y.2.2).sum+8<=vL last base x:=by
 have r:=rN (last:=last) (base:=base) (x:=x);rcases hk with hk | hk
 ·rw[if_pos hk]at e;have g:=lV (last:=last) (base:=base) hk;rcases gY S f x with⟨c, -⟩ | ⟨-,c⟩ | ⟨-,o,c⟩
  ·rw[e,c,ke ho];simp only[List.map_nil,List.sum_nil];omega
  ·rw[eS (S:=T) (i:=f) (y:=⟨4,S.bt,max 0 (min S.line.last (x.a-1)),0,x.a,false,[],[]⟩) (by rw[e,c];show S.out++_=_;rw[ho];rfl)];simp only[List.map_cons,List.map_nil,List.sum_cons,List.sum_nil];rw[uT rfl rfl,g];show(last-x.a).toNat+8+0+8<=_;omega
  ·rw[eS (S:=T) (i:=f) (y:=⟨4,S.bt,x.a+x.its.length,0,x.a,true,[],[]⟩) (by rw[e,c];show S.out++_=_;rw[ho];rfl)];simp only[List.map_cons,List.map_nil,List.sum_cons,List.sum_nil];rw[rM rfl rfl,g];show(if x.a+x.its.length<last then(last-(x.a+x.its.length)).toNat+24 else 8)+(if x.a+x.its.length<base then 40 else 0)+0+8<=_;generalize (if x.a+x.its.length<base then 40 else 0)=z;by_cases b:x.a+x.its.length<last
   ·by_cases l:(x.its.length:Int)<16
    ·have n:(if (x.its.length:Int)<16/\x.a+x.its.length<last then 16 else 0)=16:=if_pos ⟨l,b⟩;rw[n,if_pos b];omega
    ·have:0<=(if (x.its.length:Int)<16/\x.a+x.its.length<last then 16 else 0):=Nat.zero_le _;generalize (if (x.its.length:Int)<16/\x.a+x.its.length<last then 16 else 0)=m;rw[if_pos b];omega
   ·have n:∀m:Nat,8+z+0+8<=(last-x.a).toNat+16+m+z:=fun m=>by omega
    rw[if_neg b];exact n _
 ·rw[if_neg (by omega)]at e;have g:=pj (last:=last) (base:=base) hk;have d:∀a:Int,x.a<=a->T.out= [((f:Int),⟨4,S.bt,a,0,x.a,true,[],[]⟩)]->((aQ j T).map fun y=>vL last base y.2.2).sum+8<=vL last base x:=fun a q h=>by
   rw[eS h];simp only[List.map_cons,List.map_nil,List.sum_cons,List.sum_nil];rw[rM rfl rfl,g];show(if a<last then(last-a).toNat+24 else 8)+(if a<base then 40 else 0)+0+8<=_;by_cases b:a<last
   ·rw[if_pos b];by_cases l:a<base
    ·rw[if_pos l,if_pos (by omega)];omega
    ·rw[if_neg l];omega
   ·rw[if_neg b,if_neg (by omega)];omega
  rcases iN S f x with⟨b,c⟩ | ⟨b,c⟩
  ·exact d S.commit b (by rw[e,c];show S.out++_=_;rw[ho];rfl)
  ·exact d x.a (Int.le_refl _) (by rw[e,c];show S.out++_=_;rw[ho];rfl)
theorem kf:db r f j x j=bM (han r f j x):=bB _ _ _
theorem pD{i:Nat}(h:i≠j):db r f j x i=r i:=di _ _ h
theorem qz(hs:oz n L T r)(hv:Vw n k p ⟨r,(f,j,x)::l⟩):(db r f j x L).line=(r L).line/\phi n L ⟨db r f j x,l++aQ j (han r f j x)⟩+8<=phi n L ⟨r,(f,j,x)::l⟩:=by
 obtain⟨z,d,B⟩:=hv.f _ List.mem_cons_self;have z:f<n:=z;have d:j<n:=d;have B:f≠j:=B;have U:=hv.me j d;have P:=hv.nn j d;have m:=hv.out j d;have b:=hv.right _ List.mem_cons_self;have b:aO x=true:=b;obtain⟨-, -,H, -⟩:=aH b;have Y:x.t<=T:=Int.le_trans (hv.t _ List.mem_cons_self) (hs.le f z);have Z:(r j).bt=T:=by
  by_cases e:j=L
  ·subst e;exact hs.bt
  ·exact(hs.all j d e).1
 have J:=cR (R:=r j) U P z B b;have I:(r j).stepUp x.t=r j:=by rw[dZ,if_neg (by omega)]
 rw[I]at J;obtain⟨Q,D⟩:∃Q,Q=(r j).handle f x:=⟨_,rfl⟩
 rw[<-D]at J;have s:=(hv.ok L hs.ln).line;have O:=rN (last:=(r L).line.last) (base:=(r L).line.base) (x:=x);have w:(j=L->Q.line=(r L).line)->((aQ j Q).map fun y=>vL (r L).line.last (r L).line.base y.2.2).sum+(if j=L then dL n L Q else dL n L (r L))+8<=vL (r L).line.last (r L).line.base x+dL n L (r L)->(db r f j x L).line=(r L).line/\phi n L ⟨db r f j x,l++aQ j (han r f j x)⟩+8<=phi n L ⟨r,(f,j,x)::l⟩:=fun G C=>by
  have N:(db r f j x L).line=(r L).line/\dL n L (db r f j x L)=if j=L then dL n L Q else dL n L (r L):=by
   by_cases e:j=L
   ·subst e;rw[kf,if_pos rfl];refine⟨?_,?_⟩
    ·show(han r f j x).line=_;rw[<-G rfl,D]
    ·show dL n j (bM ((r j).handle f x))=_;rw[<-D];rfl
   ·rw[pD (fun h=>e h.symm),if_neg e];exact⟨rfl,rfl⟩
  refine⟨N.1,?_⟩;unfold phi;show((l++aQ j (han r f j x)).map fun y=>vL (db r f j x L).line.last (db r f j x L).line.base y.2.2).sum+dL n L (db r f j x L)+8<=(((f,j,x)::l).map fun y=>vL (r L).line.last (r L).line.base y.2.2).sum+dL n L (r L);rw[N.1,N.2,List.map_append,List.sum_append,List.map_cons,List.sum_cons];have e2:aQ j (han r f j x)=aQ j Q:=by rw[D]
  rw[e2];show _<=vL (r L).line.last (r L).line.base x+(l.map fun y=>vL (r L).line.last (r L).line.base y.2.2).sum+dL n L (r L);generalize (l.map fun y=>vL (r L).line.last (r L).line.base y.2.2).sum=z1;generalize ((aQ j Q).map fun y=>vL (r L).line.last (r L).line.base y.2.2).sum=z2 at C ⊢;generalize (if j=L then dL n L Q else dL n L (r L))=z3 at C ⊢;omega
 have g:Q.line=(r j).line->Q.mat=(r j).mat->Q.nxt=(r j).nxt->((aQ j Q).map fun y=>vL (r L).line.last (r L).line.base y.2.2).sum+8<=vL (r L).line.last (r L).line.base x->(db r f j x L).line=(r L).line/\phi n L ⟨db r f j x,l++aQ j (han r f j x)⟩+8<=phi n L ⟨r,(f,j,x)::l⟩:=fun G C X k4=>by
  refine w (fun e=>by rw[G,e]) ?_;by_cases e:j=L
  ·rw[if_pos e];have:dL n L Q=dL n L (r L):=by unfold dL;rw[C,X,e]
   omega
  ·rw[if_neg e];omega
 have M:(r L).line.base<=(r L).line.last:=by have hl:(r L).line.last=(r L).line.base+((r L).line.l.length:Int):=rfl;omega
 cases J with
 | ask yes nw c hy e=>refine g (by rw[e]) (by rw[e]) (by rw[e]) ?_;rw[eS (S:=Q) (i:=f) (y:=⟨2,(r j).bt,0,0,0,yes,[],[]⟩) (by rw[e];show(r j).out++_=_;rw[m];rfl)];simp only[List.map_cons,List.map_nil,List.sum_cons,List.sum_nil];rw[xQ rfl,xR c];exact Nat.le_refl _
 | vote c hr ht hy e=>
  exfalso;by_cases e:j=L
  ·subst e;have:=hs.role;omega
  ·have:=(hs.all j d e).2.1;omega
 | still e hh=>refine g (by rw[e]) (by rw[e]) (by rw[e]) ?_;rw[ke (S:=Q) (by rw[e];exact m)];simp only[List.map_nil,List.sum_nil];omega
 | refuse c ht e=>
  refine g (by rw[e]) (by rw[e]) (by rw[e]) ?_;rw[eS (S:=Q) (i:=f) (y:=⟨4,(r j).bt,0,0,x.a,false,[],[]⟩) (by rw[e];show(r j).out++_=_;rw[m];rfl)];simp only[List.map_cons,List.map_nil,List.sum_cons,List.sum_nil];rw[uT rfl rfl];show((r L).line.last-x.a).toNat+8+0+8<=_;rcases c with c | c
  ·rw[lV c];omega
  ·rw[pj c];omega
 | follow c ht hr e=>
  have o:j≠L:=fun e=>hr (by rw[e];exact hs.role)
  refine w (fun e=>absurd e o) ?_;rw[if_neg o];have:=vR (j:=j) (f:=f) (x:=x) (S:=(r j).foll f) (T:=Q) M (by show(r j).out= [];exact m) c e;omega
 | got c hr ht e=>
  have o:j=L:=by
   by_cases e:j=L
   ·exact e
   ·have:=(hs.all j d e).2.1;omega
  subst o;have F:=hv.ok j d;have h5:=hv.n5;have A:0<=(r j).mat.getD f 0:=by
   rw[List.getD_eq_getElem?_getD];cases h9:(r j).mat[f]? with
   | none=>exact Int.le_refl _
   | some v=>exact(F.mss v (List.mem_of_getElem? h9)).1
  obtain⟨W,V⟩:=xp (x:=x) s d U P h5 hr m F.m7 F.x7 z B c ht H.1 A ((hv.q j d).nx hr f (by omega) B) (hv.nxl j d hr f z);rw[<-e]at W V;refine w (fun _=>W) ?_;rw[if_pos rfl];exact V
theorem qA(g:n<=5)(hm:m<=3990)(hp:p<=1900):∀(d:Nat) (A:AS) (cc:Nat),Kn n cc k p m A->cc+d<=1000000->oz n L T A.r->((A.dels d).r L).line=(A.r L).line/\phi n L (A.dels d)<=phi n L A/\((A.dels d).ls= []\/phi n L (A.dels d)+8*d<=phi n L A)
 | 0,A,cc,_,_,_=>⟨rfl,Nat.le_refl _, .inr (Nat.le_refl _)⟩
 | d+1,A,cc,hl,hc,e=>by
  have i:=hl.del g (by omega) hm hp;have h:=oz.dels g hm hp 1 A cc hl (by omega) e;obtain⟨r,ls⟩:=A;cases ls with
  | nil=>rw[iq (d+1) (A:=⟨r,[]⟩) rfl];exact⟨rfl,Nat.le_refl _, .inl rfl⟩
  | cons y l=>
   obtain⟨f,j,x⟩:=y;have e:oz n L T r:=e;obtain⟨a,b⟩:=qz e (l:=l) (f:=f) (j:=j) (x:=x) (hl.vw g);obtain⟨o,q,c⟩:=qA g hm hp d (⟨r,(f,j,x)::l⟩:AS).del (cc+1) i (by omega) h;show(((⟨r,(f,j,x)::l⟩:AS).del.dels d).r L).line=_/\phi n L ((⟨r,(f,j,x)::l⟩:AS).del.dels d)<=_/\(((⟨r,(f,j,x)::l⟩:AS).del.dels d).ls= []\/phi n L ((⟨r,(f,j,x)::l⟩:AS).del.dels d)+_<=_)
   rw[rx]at o q c ⊢;refine⟨o.trans a,by omega,?_⟩;rcases c with c | c
   ·exact .inl c
   ·right;omega
end
section
variable {n i j k c m cc p N L b : Nat} {A A' B : AS} {R S : aa} {f : Nat} {x : ax} {r : Nat -> aa} {l : List L3} {T t : Int} {F H : List ar} {g : Gh} {G : ac}
theorem uv(f:b<=F.length){a:Nat}{its:List ar}(j:a<=F.length)(hag:F.take a=H.take a)(hr:∀it∈its,bj it=true)(hfit:a+its.length<=4096):((aL F b).join a (dm H a) its).2.2=true:=by
 have g:=aN f;have d:(aL F b).base=b:=rfl;unfold ae.join;rw[if_neg,if_neg]
 ·split
  ·rfl
  ·rename_i i r he
   obtain⟨k,e,c,m,l, -⟩:=ae.diff_some he;rw[if_pos];unfold cL;simp only[Bool.and_eq_true,decide_eq_true_eq];rw[d]at l ⊢;rw[m,List.length_drop];omega
 ·rintro⟨e,c⟩;rw[d]at e;rw[gt f,if_pos ⟨by omega,j⟩]at c;exact c (dN hag (Nat.le_refl _))
 ·rintro(h | h | h)
  ·omega
  ·rw[g]at h;omega
  ·obtain⟨it,e,c⟩:=List.any_eq_true.1 h;rw[hr it e]at c;cases c
structure Vx (n:Nat) (A:AS):Prop where
 snd:∀y∈A.ls,y.2.2.k=3->(A.r y.1).role=2->(A.r y.1).bt=y.2.2.t->(A.r y.2.1).bt=y.2.2.t->y.2.2.a+y.2.2.its.length<=(A.r y.1).line.last/\¬(((A.r y.2.1).line.join y.2.2.a y.2.2.u y.2.2.its).2.2=true/\0<((A.r y.2.1).line.join y.2.2.a y.2.2.u y.2.2.its).2.1/\((A.r y.2.1).line.join y.2.2.a y.2.2.u y.2.2.its).2.1<=(A.r y.2.1).commit)/\
  (((A.r y.2.1).line.join y.2.2.a y.2.2.u y.2.2.its).2.2=false->(A.r y.1).mat.getD y.2.1 0<y.2.2.a)
 yes:∀y∈A.ls,y.2.2.k=4->y.2.2.y=true->(A.r y.2.1).role=2->(A.r y.2.1).bt=y.2.2.t->y.2.2.a<=(A.r y.2.1).line.last
 mat:∀j,j<n->(A.r j).role=2->∀i,i<n->(A.r j).mat.getD i 0<=(A.r j).line.last
 small:∀j,j<n->(A.r j).line.last<=3990
theorem FI.vx(h:FI g G n c k p m A)(hm:m<=3990):Vx n A:=by
 have z:∀j,j<n->RI g n j (A.r j):=fun j q=>(h.si.ri j _ (h.ab.rs j q)).1
 have hcn:g.cnt<=3990:=by have:=h.cn;omega
 have d:∀j,j<n->(A.r j).line.last=(g.fl j).length:=fun j q=>by obtain⟨b,Z,v⟩:=(z j q).ln;rw[v];exact aN Z
 have S:∀f L,f<n->L<n->(A.r L).role=2->((g.ack f (A.r L).bt:Nat):Int)<=(A.r L).line.last:=fun f L hf hL w=>by
  obtain⟨e1,e2, -⟩:=(z L hL).lead w;rw[d L hL,<-e2];by_cases h0:0<g.ack f (A.r L).bt
  ·have:=(h.si.ok.ackle f _ hf h0).2.2;omega
  ·omega
 refine⟨fun y hy V w s M=> ?_,fun y hy V hyy w s=> ?_,fun j q w i hi=> ?_,fun j q=> ?_⟩
 ·obtain⟨f,j,x⟩:=y;have O:Lt g n f j x:=h.ab.lt h.si hy;have V:x.k=3:=V;have w:(A.r f).role=2:=w;have s:(A.r f).bt=x.t:=s;have M:(A.r j).bt=x.t:=M;show x.a+x.its.length<=(A.r f).line.last/\¬(((A.r j).line.join x.a x.u x.its).2.2=true/\0<((A.r j).line.join x.a x.u x.its).2.1/\((A.r j).line.join x.a x.u x.its).2.1<=(A.r j).commit)/\(((A.r j).line.join x.a x.u x.its).2.2=false->(A.r f).mat.getD j 0<x.a)
  have W:f<n:=O.jn;have q:j<n:=by have:=O.w1;omega
  obtain⟨l1,a,o,l2,l3,l4,l5,l6,l7⟩:=O.k3 V;have B:=gC l1;obtain⟨e1,e2,e3,e4,e5⟩:=(z f W).lead w;rw[s]at e1 e2 e4;have hlf:=d f W;have hlj:=d j q;have l:=z j q;have X:g.bt j=x.t:=by rw[<-M,l.bt]
  obtain⟨b,Z,v⟩:=l.ln;have P:=l.ok.line;rw[v]at P;obtain⟨-,hxt,hxa,hxu,hxo,hxi, -,hxr, -⟩:=aH O.right;have R:=l.com;rw[M]at R;obtain⟨ca1,Y⟩:=R.agree h.si.ok B;have hcm0:=l.ok.ap0;have hcm1:=l.ok.ap1;have hcm2:=l.ok.cm;have hb00:=l.ok.line.b0;have hbase:(A.r j).line.base=b:=by rw[v];rfl
  obtain⟨len,N⟩:∃len,x.its.length=len:=⟨_,rfl⟩
  have hgl:=(h.si.ok.gb x.t B).1;refine⟨by rw[hlf,<-e2,l2];exact_mod_cast l4,?_,fun I=> ?_⟩
  ·rw[N]at l4 l6;have C:=lz (G:=g.gl x.t) P Z N l4 l6 ⟨cD Y (by omega),by omega⟩ (fun i D U T h4=>Gh.same (h.si.ok.fline j q i D U) (h.si.ok.gline _ B i D T) h4);rw[<-l5,<-l2,<-v]at C;rintro⟨D,U,T⟩;rcases C with e | ⟨e, -⟩ | ⟨J,e, -, -, -, -,h6, -⟩
   ·rw[e]at D;cases D
   ·rw[e]at U;exact absurd U (by simp)
   ·rw[e]at T;have T:(J:Int)<=(A.r j).commit:=T;exact h6 ⟨by omega,cD Y (by omega)⟩
  ·obtain⟨a1,a2⟩:=h.si.ok.ackNow j q;rw[X]at a1 a2;have h9:=e4 j q;by_cases h0:a<=g.ack j x.t
   ·exfalso;have D:=uv (F:=g.fl j) (H:=g.gl x.t) (b:=b) Z (a:=a) (its:=x.its) (by omega) (cD a1 h0) hxr (by omega);rw[<-l5,<-l2,<-v,I]at D;cases D
   ·omega
 ·obtain⟨f,j,x⟩:=y;have O:Lt g n f j x:=h.ab.lt h.si hy;have q:j<n:=by have:=O.w1;omega
  have w:(A.r j).role=2:=w;have s:(A.r j).bt=x.t:=s;obtain⟨a,D,U⟩:=O.k4 V hyy;show x.a<=(A.r j).line.last;have T:=S f j O.jn q w;rw[s]at T;omega
 ·have D:=((z j q).lead w).2.2.2.1 i hi;have U:=S i j hi q w;omega
 ·rw[d j q];have:=(h.si.ok.fb j q).1;omega
theorem Kn.vx(h:Kn n c k p m A)(hm:m<=3990):Vx n A:=by obtain⟨g,G,h⟩:=h.fi;exact h.vx hm
theorem Kn.last(h:Kn n c k p m A)(hj:j<n):(A.r j).line.last<=m:=by obtain⟨g,G,h⟩:=h.fi;have a:=(h.si.ri j _ (h.ab.rs j hj)).1;obtain⟨b,e,d⟩:=a.ln;have f:=aN e;rw[<-d]at f;have:=(h.si.ok.fb j hj).1;have:=h.cn;omega
end
def CM(n L:Nat)(R:aa):Prop:=R.commit=R.line.last\/∃g,g<n/\g≠L/\R.mat.getD g 0<R.line.last
def fk(L f:Nat)(T:Int)(R:aa)(y:L3):Prop:=
 y.2.2.t=T/\((y.1=L/\y.2.1=f/\((y.2.2.k=3/\y.2.2.a+1=R.nxt.getD f 0)\/(y.2.2.k=5/\R.nxt.getD f 0<=y.2.2.a+1)))\/
  (y.1=f/\y.2.1=L/\y.2.2.k=4/\((y.2.2.y=true/\R.nxt.getD f 0<=y.2.2.a+1)\/(y.2.2.y=false/\y.2.2.o+1=R.nxt.getD f 0/\R.mat.getD f 0<y.2.2.o))))
def lI(n L f:Nat)(R:aa):Prop:=R.mat.getD f 0=R.line.last/\CM n L R
section
variable {n i j k c m cc p N L b : Nat} {A A' B : AS} {R S : aa} {f : Nat} {x : ax} {r : Nat -> aa} {l : List L3} {T t : Int}
theorem sM{a:List Int}{v:Int}(h1:1<=a.length)(h7:a.length<=7)(h:∀z∈a,z=v):cB a=v:=by
 unfold cB;rw[if_pos (by unfold dP;simp only[Bool.and_eq_true,decide_eq_true_eq];exact⟨h1,h7⟩)];have b:a.length-(a.length / 2+1)<(cU a).length:=by rw[dq];omega
 rw[ky b];exact h _ ((jX a).mem_iff.1 (List.getElem_mem b))
theorem tz(p:R.line.Good)(hL:L<n)(hm:R.me=L)(hn:R.n=n)(h5:n<=5)(hm7:R.mat.length=7)(hcm:R.commit<=R.line.last)(htm:R.line.tm R.line.last=R.bt)(hmx:∀g,g<n->R.mat.getD g 0<=R.line.last):
  R.look.commit=R.line.last\/∃g,g<n/\g≠L/\R.mat.getD g 0<R.line.last:=by
 by_cases a:∀g,g<n->g≠L->R.mat.getD g 0=R.line.last
 ·left
  have i:cB ((R.mat.set R.me.toNat R.line.last).take R.n.toNat)=R.line.last:=by
   refine sM ?_ ?_ fun z o=> ?_
   ·rw[List.length_take,List.length_set,hm7,hn];omega
   ·rw[List.length_take,List.length_set,hm7];omega
   ·obtain⟨q,f,b⟩:=List.getElem_of_mem o;rw[List.length_take,List.length_set,hn]at f;rw[List.getElem_take]at b;have c:=bi R.mat L q R.line.last (by omega);rw[ky (by rw[List.length_set];omega)]at c;have e:R.me.toNat=L:=by omega
    simp only[e]at b;rw[<-b,c];by_cases k:q=L
    ·rw[if_pos k]
    ·rw[if_neg k];exact a q (by omega) k
  unfold aa.look;simp only;rw[i];by_cases h:R.commit<R.line.last
  ·have r:=(p.tm_ge R.line.last).2 ⟨by show R.line.base<=R.line.base+(R.line.l.length:Int);omega,Int.le_refl _⟩;rw[if_pos ⟨h,by unfold bk;rw[if_pos r];exact htm⟩]
  ·rw[if_neg (fun c=>h c.1)];show R.commit=_;omega
 ·right
  have c:∃g,g<n/\g≠L/\R.mat.getD g 0≠R.line.last:=by apply Classical.byContradiction;intro h;exact a fun g d j=>Classical.byContradiction fun m=>h ⟨g,d,j,m⟩
  obtain⟨g,d,j,m⟩:=c;have:=hmx g d;exact⟨g,d,j,by omega⟩
theorem nj(c:L≠f){Q:aa}(b:Q.bt=T)(l:List L3)(R':aa)(ho:R'.out= [((f:Int),Q.nextL f)])(hx:R'.nxt.getD f 0=Q.nxt.getD f 0):∃y∈l++aQ L R',fk L f T R' y:=by
 refine⟨(L,f,Q.nextL f),List.mem_append_right _ (by rw[eS ho];simp),?_⟩;refine⟨((ep Q f).2).trans b, .inl ⟨rfl,rfl,?_⟩⟩;rw[hx];show((Q.nextL f).k=3/\(Q.nextL f).a+1=Q.nxt.getD f 0)\/((Q.nextL f).k=5/\Q.nxt.getD f 0<=(Q.nextL f).a+1)
 unfold aa.nextL;split
 ·rename_i h
  exact .inr ⟨rfl,by show Q.nxt.getD f 0<=Q.line.base+1;omega⟩
 ·exact .inl ⟨rfl,by show Q.nxt.getD f 0-1+1=_;omega⟩
theorem vO(C:R.line.Good)(hL:L<n)(hm:R.me=L)(hn:R.n=n)(h5:n<=5)(hr:R.role=2)(ho:R.out= [])(hm7:R.mat.length=7)(hx7:R.nxt.length=7)(hf:f<n)(hfL:f≠L)(hk:x.k=4)(ht:x.t=R.bt)
 (hnx:R.mat.getD f 0+1<=R.nxt.getD f 0)(hnl:R.nxt.getD f 0<=R.line.last+1)(hcm:R.commit<=R.line.last)(htm:R.line.tm R.line.last=R.bt)(hmx:∀g,g<n->R.mat.getD g 0<=R.line.last)(hxy:x.y=true->x.a<=R.line.last)(l:List L3):
  (R.got f x).line=R.line/\(∀g,g<n->g≠L->g≠f->(R.got f x).mat.getD g 0=R.mat.getD g 0/\(R.got f x).nxt.getD g 0=R.nxt.getD g 0)/\(CM n L R->CM n L (R.got f x))/\
   (lI n L f R\/fk L f R.bt R (f,L,x)\/(∃y∈l,fk L f R.bt R y)->lI n L f (R.got f x)\/∃y∈l++aQ L (R.got f x),fk L f R.bt (R.got f x) y):=by
 unfold aa.got;rw[if_neg (by intro h;rcases h with h | h;exact h hr;exact h ht)];simp only[Int.toNat_natCast];by_cases S:x.y=true/\x.a<=R.line.last
 ·rw[if_pos S];obtain⟨j,b⟩:∃j:aa,j={ R with mat:=R.mat.set f (max (R.mat.getD f 0) x.a),nxt:=R.nxt.set f (max (R.nxt.getD f 0) (x.a+1)) }:=⟨_,rfl⟩
  rw[<-b];have B:∀g,g<n->j.mat.getD g 0=if g=f then max (R.mat.getD f 0) x.a else R.mat.getD g 0:=fun g C=>by rw[b];exact bi _ _ _ _ (by omega)
  have M:∀g,g<n->j.nxt.getD g 0=if g=f then max (R.nxt.getD f 0) (x.a+1) else R.nxt.getD g 0:=fun g C=>by rw[b];exact bi _ _ _ _ (by omega)
  have q:j.line=R.line:=by rw[b]
  have N:j.look.commit=R.line.last\/∃g,g<n/\g≠L/\j.mat.getD g 0<R.line.last:=by
   have I:=tz (R:=j) (L:=L) (n:=n) (by rw[q];exact C) hL (by rw[b];exact hm) (by rw[b];exact hn) h5 (by rw[b];simp[hm7]) (by rw[b];exact hcm) (by rw[b];exact htm) (fun g C=>by rw[B g C,q];have:=hmx g C;have:=hmx f hf;split<;>omega)
   rw[q]at I;exact I
  obtain⟨m,c,Y,e3, -⟩:=ch j;have e4:m=j.mat.set L R.line.last:=by rw[e3,q,b];show(R.mat.set f _).set R.me.toNat _=_;rw[hm];rfl
  have v:∀g,g<n->g≠L->m.getD g 0=j.mat.getD g 0:=fun g C W=>by rw[e4,bi _ _ _ _ (by rw[b];simp[hm7];omega),if_neg W]
  have r:∀O:aa,O.line=R.line->O.mat=m->O.commit=c->CM n L O:=fun O k1 k2 k3=>by
   unfold CM;rw[k1,k2,k3];rw[Y]at N;rcases N with I | ⟨g,s,d,p⟩
   ·exact .inl I
   ·exact .inr ⟨g,s,d,by rw[v g s d];exact p⟩
  rw[Y];obtain⟨Q,G⟩:∃Q:aa,Q={ j with mat:=m,commit:=c }:=⟨_,rfl⟩
  rw[<-G];have A:Q.line=R.line:=by rw[G];exact q
  have z:Q.mat=m:=by rw[G]
  have U:Q.commit=c:=by rw[G]
  have P:Q.nxt=j.nxt:=by rw[G]
  have q5:Q.out= []:=by rw[G,b];exact ho
  have q6:Q.bt=R.bt:=by rw[G,b]
  have D:=M f hf;rw[if_pos rfl]at D;have F:=B f hf;rw[if_pos rfl]at F;have w:∀g,g<n->g≠L->g≠f->m.getD g 0=R.mat.getD g 0/\j.nxt.getD g 0=R.nxt.getD g 0:=fun g s d p=>by rw[v g s d,B g s,M g s,if_neg p,if_neg p];exact⟨rfl,rfl⟩
  by_cases H:Q.nxt.getD f 0<=Q.line.last
  ·rw[if_pos H,ei];refine⟨A,fun g s d p=> ?_,fun _=>r _ A z U,fun _=> .inr ?_⟩
   ·show Q.mat.getD g 0=_/\Q.nxt.getD g 0=_;rw[z,P];exact w g s d p
   ·exact nj (fun e=>hfL e.symm) (Q:=Q) q6 l _ (by show Q.out++_=_;rw[q5];rfl) rfl
  ·rw[if_neg H];rw[P,A,D]at H;refine⟨A,fun g s d p=> ?_,fun _=>r _ A z U,fun i=> ?_⟩
   ·rw[z,P];exact w g s d p
   ·by_cases I:max (R.mat.getD f 0) x.a=R.line.last
    ·left
     refine⟨?_,r _ A z U⟩;rw[A,z,v f hf hfL,F,I]
    ·right
     have p:=hmx f hf;rcases i with i | i | ⟨y,V,i⟩
     ·exfalso;have:=i.1;omega
     ·exfalso;rcases i.2 with⟨e, -⟩ | ⟨-, -, -,⟨-,d⟩ | ⟨d, -⟩⟩
      ·exact hfL e
      ·have d:R.nxt.getD f 0<=x.a+1:=d;omega
      ·have d:x.y=false:=d;rw[S.1]at d;cases d
     ·refine⟨y,List.mem_append_left _ V,i.1,?_⟩;rw[P,D,z,v f hf hfL,F];have e:max (R.nxt.getD f 0) (x.a+1)=R.nxt.getD f 0:=by omega
      rw[e];rcases i.2 with d | ⟨a1,a2,Z,X | ⟨X,a5,a6⟩⟩
      ·exact .inl d
      ·exact .inr ⟨a1,a2,Z, .inl X⟩
      ·exact .inr ⟨a1,a2,Z, .inr ⟨X,a5,by omega⟩⟩
 ·rw[if_neg S];have J:x.y=false:=by
   cases h:x.y with
   | false=>rfl
   | true=>exact absurd ⟨h,hxy h⟩ S
  by_cases H:x.y=false/\x.o=R.nxt.getD f 0-1/\R.mat.getD f 0<x.o
  ·rw[if_pos H,ei];refine⟨rfl,fun g s d p=>⟨rfl,?_⟩,fun h=>h,fun _=> .inr (nj (fun e=>hfL e.symm) (T:=R.bt) (Q:={ R with nxt:=R.nxt.set f (max (R.mat.getD f 0+1) (min (x.a+1) x.o)) }) rfl l _ (by show R.out++_=_;rw[ho];rfl) rfl)⟩;show(R.nxt.set f _).getD g 0=_;rw[bi _ _ _ _ (by omega),if_neg p]
  ·rw[if_neg H];refine⟨rfl,fun g _ _ _=>⟨rfl,rfl⟩,fun h=>h,fun i=> ?_⟩;rcases i with i | i | ⟨y,V,i⟩
   ·exact .inl i
   ·exfalso;rcases i.2 with⟨e, -⟩ | ⟨-, -, -,⟨d, -⟩ | ⟨-,d,p⟩⟩
    ·exact hfL e
    ·have d:x.y=true:=d;rw[J]at d;cases d
    ·have d:x.o+1=R.nxt.getD f 0:=d;exact H ⟨J,by omega,p⟩
   ·exact .inr ⟨y,List.mem_append_left _ V,i⟩
end
def iy(n L:Nat)(T:Int)(r:Nat->aa)(ls:List L3):Prop:=∀g,g<n->g≠L->lI n L g (r L)\/∃y∈ls,fk L g T (r L) y
section
variable {n i j k c m cc p N L b : Nat} {A A' B : AS} {R S : aa} {f : Nat} {x : ax} {r : Nat -> aa} {l : List L3} {T t : Int}
theorem uF(l:j≠L)(ho:S.out= [])(hb:S.bt=T)(hk:(x.k=3/\x.a+1=R.nxt.getD j 0)\/(x.k=5/\R.nxt.getD j 0<=x.a+1))(h3:x.k=3->¬((S.line.join x.a x.u x.its).2.2=true/\0<(S.line.join x.a x.u x.its).2.1/\(S.line.join x.a x.u x.its).2.1<=S.commit)/\((S.line.join x.a x.u x.its).2.2=false->R.mat.getD j 0<x.a))
 {Q:aa}(e:Q=if x.k=3 then S.sent1 L x else S.given1 L x):∃y∈aQ j Q,fk L j T R y:=by
 have f:Q.out= [((L:Int),⟨4,S.bt,max 0 (min S.line.last (x.a-1)),0,x.a,false,[],[]⟩)]->x.a+1=R.nxt.getD j 0->R.mat.getD j 0<x.a->∃y∈aQ j Q,fk L j T R y:=fun h g h3=>by rw[eS h];exact⟨_,List.mem_cons_self,hb, .inr ⟨rfl,by show((L:Int)).toNat=L;omega,rfl, .inr ⟨rfl,g,h3⟩⟩⟩
 have b:∀a:Int,Q.out= [((L:Int),⟨4,S.bt,a,0,x.a,true,[],[]⟩)]->R.nxt.getD j 0<=a+1->∃y∈aQ j Q,fk L j T R y:=fun a h g=>by rw[eS h];exact⟨_,List.mem_cons_self,hb, .inr ⟨rfl,by show((L:Int)).toNat=L;omega,rfl, .inl ⟨rfl,g⟩⟩⟩
 rcases hk with⟨hk,d⟩ | ⟨hk,d⟩
 ·rw[if_pos hk]at e;obtain⟨n,m⟩:=h3 hk;rcases gY S L x with⟨-,c⟩ | ⟨i,c⟩ | ⟨-,o,c⟩
  ·exact absurd c n
  ·exact f (by rw[e,c];show S.out++_=_;rw[ho];rfl) d (m i)
  ·exact b _ (by rw[e,c];show S.out++_=_;rw[ho];rfl) (by omega)
 ·rw[if_neg (by omega)]at e;rcases iN S L x with⟨i,c⟩ | ⟨-,c⟩
  ·exact b S.commit (by rw[e,c];show S.out++_=_;rw[ho];rfl) (by omega)
  ·exact b x.a (by rw[e,c];show S.out++_=_;rw[ho];rfl) d
theorem uq(hs:oz n L T r)(hv:Vw n k p ⟨r,(f,j,x)::l⟩)(hx:Vx n ⟨r,(f,j,x)::l⟩)(hl:iy n L T r ((f,j,x)::l)):iy n L T (db r f j x) (l++aQ j (han r f j x)):=by
 obtain⟨D,h,A⟩:=hv.f _ List.mem_cons_self;have D:f<n:=D;have h:j<n:=h;have A:f≠j:=A;have hm:=hv.me j h;have Z:=hv.nn j h;have H:=hv.out j h;have d:=hv.right _ List.mem_cons_self;have d:aO x=true:=d;have hxt:x.t<=T:=Int.le_trans (hv.t _ List.mem_cons_self) (hs.le f D);have w:(r j).bt=T:=by
  by_cases e:j=L
  ·subst e;exact hs.bt
  ·exact(hs.all j h e).1
 have J:=cR (R:=r j) hm Z D A d;have U:(r j).stepUp x.t=r j:=by rw[dZ,if_neg (by omega)]
 rw[U]at J;have J:HC (r j) f x (han r f j x):=J;by_cases v:j=L
 ·subst v;rw[show db r f j x=eB r j (bM (han r f j x)) from rfl];unfold iy;rw[bB];have o:(han r f j x).line=(r j).line->(han r f j x).mat=(r j).mat->(han r f j x).nxt=(r j).nxt->(han r f j x).commit=(r j).commit->(∀g,g<n->g≠j->¬fk j g T (r j) (f,j,x))->∀g,g<n->g≠j->lI n j g (bM (han r f j x))\/∃y∈l++aQ j (han r f j x),fk j g T (bM (han r f j x)) y:=fun k1 Y P k4 k5 g z i=>by
   rcases hl g z i with b | ⟨y,c,b⟩
   ·left
    unfold lI CM at b ⊢;show(han r f j x).mat.getD g 0=(han r f j x).line.last/\((han r f j x).commit=(han r f j x).line.last\/∃q,q<n/\q≠j/\(han r f j x).mat.getD q 0<(han r f j x).line.last)
    rw[k1,Y,k4];exact b
   ·rcases List.mem_cons.1 c with e | c
    ·subst e;exact absurd b (k5 g z i)
    ·right
     refine⟨y,List.mem_append_left _ c,?_⟩;unfold fk at b ⊢;show _/\((_/\_/\((_/\_=(han r f j x).nxt.getD g 0)\/(_/\(han r f j x).nxt.getD g 0<=_)))\/(_/\_/\_/\((_/\(han r f j x).nxt.getD g 0<=_)\/(_/\_=(han r f j x).nxt.getD g 0/\(han r f j x).mat.getD g 0<_))))
     rw[Y,P];exact b
  have s:¬(x.k=4/\x.t=T)->∀g,g<n->g≠j->¬fk j g T (r j) (f,j,x):=fun b g _ _ O=>by
   rcases O.2 with⟨e, -⟩ | ⟨-, -,e, -⟩
   ·exact A e
   ·exact b ⟨e,O.1⟩
  cases J with
  | ask yes nw m c e=>exact o (by rw[e]) (by rw[e]) (by rw[e]) (by rw[e]) (s (by omega))
  | vote m hr ht c e=>have:=hs.role;omega
  | still e N=>
   refine o (by rw[e]) (by rw[e]) (by rw[e]) (by rw[e]) (s fun b=> ?_);rcases N with⟨m, -⟩ | ⟨-,N⟩ | ⟨m, -⟩
   ·omega
   ·exact N ⟨hs.role,by rw[w];exact b.2⟩
   ·omega
  | refuse m ht e=>exact o (by rw[e]) (by rw[e]) (by rw[e]) (by rw[e]) (s (by omega))
  | follow m ht hr e=>exact absurd hs.role hr
  | got m hr ht e=>
   have C:=hv.ok j h;have G:=hx.small j h;have G:(r j).line.last<=3990:=G;obtain⟨g1,g2,g3,g4⟩:=vO (x:=x) C.line h hm Z hv.n5 hr H C.m7 C.x7 D A m ht ((hv.q j h).nx hr f (by have:=hv.n5;omega) A) (hv.nxl j h hr f D) C.cm ((hv.q j h).lt hr C.bt0 C.bt1 (by show(r j).line.last<4000;omega)) (hx.mat j h hr) (fun c=>hx.yes _ List.mem_cons_self m c hr ht.symm) l;have eh:han r f j x=(r j).got f x:=e;intro g z i;show lI n j g (han r f j x)\/∃y∈l++aQ j (han r f j x),fk j g T (han r f j x) y;rw[eh];by_cases B:g=f
   ·subst B;rw[w]at g4;refine g4 ?_;rcases hl g z i with b | ⟨y,c,b⟩
    ·exact .inl b
    ·rcases List.mem_cons.1 c with e | c
     ·subst e;exact .inr (.inl b)
     ·exact .inr (.inr ⟨y,c,b⟩)
   ·obtain⟨X,o2⟩:=g2 g z i B;rcases hl g z i with b | ⟨y,c,b⟩
    ·exact .inl ⟨by rw[X,g1];exact b.1,g3 b.2⟩
    ·rcases List.mem_cons.1 c with e | c
     ·subst e;exfalso;rcases b.2 with⟨e, -⟩ | ⟨e, -⟩
      ·exact A e
      ·exact B e.symm
     ·right
      refine⟨y,List.mem_append_left _ c,?_⟩;unfold fk at b ⊢;rw[X,o2];exact b
 ·unfold iy;rw[pD (fun e=>v e.symm)];intro g z V;rcases hl g z V with b | ⟨y,c,b⟩
  ·exact .inl b
  ·rcases List.mem_cons.1 c with e | c
   ·subst e;rcases b.2 with⟨W,M,m⟩ | ⟨-,M, -⟩
    ·have W:f=L:=W;have M:j=g:=M;subst W M;have m:(x.k=3/\x.a+1=(r f).nxt.getD j 0)\/(x.k=5/\(r f).nxt.getD j 0<=x.a+1):=m;have F:x.t=T:=b.1;obtain⟨b1,b2,b3⟩:=hs.all j h v
     right
     have I:∃y∈aQ j (han r f j x),fk f j T (r f) y:=by
      cases J with
      | ask yes nw hk' c e=>omega
      | vote hk' hr ht c e=>omega
      | still e N=>omega
      | refuse hk' ht e=>omega
      | follow hk' ht hr e=>refine uF (S:=(r j).foll f) v H w m (fun P=> ?_) e;exact(hx.snd _ List.mem_cons_self P hs.role (by show(r f).bt=x.t;rw[hs.bt,F]) (by show(r j).bt=x.t;rw[w,F])).2
      | got hk' hr ht e=>omega
     obtain⟨y,c,O⟩:=I;exact⟨y,List.mem_append_right _ c,O⟩
    ·exact absurd M v
   ·exact .inr ⟨y,List.mem_append_left _ c,b⟩
theorem oU(a:n<=5)(hm:m<=3990)(hp:p<=1900):∀(d:Nat) (A:AS) (cc:Nat),Kn n cc k p m A->cc+d<=1000000->oz n L T A.r->iy n L T A.r A.ls->iy n L T (A.dels d).r (A.dels d).ls
 | 0,A,cc,_,_,_,h=>h
 | d+1,A,cc,hl,hc,hs,h=>by
  have b:=oz.dels a hm hp 1 A cc hl (by omega) hs;refine oU a hm hp d A.del (cc+1) (hl.del a (by omega) hm hp) (by omega) b ?_;have e:=hl.vw a;have c:=hl.vx hm;obtain⟨r,ls⟩:=A;cases ls with
  | nil=>exact h
  | cons y l=>obtain⟨f,j,x⟩:=y;exact uq hs e c h
end
section
variable {n i j k c m cc p N L b : Nat} {A A' B : AS} {R S : aa} {f : Nat} {x : ax} {r : Nat -> aa} {l : List L3} {T t : Int}
theorem p8{α:Type}{F:Nat->List α}:∀n,(∀j,j<n->F j= [])->(List.range n).flatMap F= []
 | 0,_=>rfl
 | n+1,h=>by rw[List.range_succ,List.flatMap_append,p8 n (fun j a=>h j (by omega))];simp[h n (by omega)]
theorem rq{α:Type}{F:Nat->List α}{L:Nat}:∀n,L<n->(∀j,j<n->j≠L->F j= [])->(List.range n).flatMap F=F L
 | 0,h,_=>by omega
 | n+1,h,h1=>by
  rw[List.range_succ,List.flatMap_append];by_cases e:L=n
  ·subst e;rw[p8 L (fun j b=>h1 j (by omega) (by omega))]
   simp
  ·rw[rq n (by omega) (fun j b a=>h1 j (by omega) a)];simp[h1 n (by omega) (fun h=>e h.symm)]
def pf(n L:Nat)(R:aa):List L3:=(bh n L).map fun i=>(L,i,R.nextL i)
theorem jt(hs:de n L T t A.r)(hv:Vw n k p A)(h2:2<=n)(hk:k<1099511627776):
  (AS.ticks n A).ls=A.ls++(if t=3 then pf n L (A.r L) else[])/\∀j,j<n->(∃tk,(AS.ticks n A).r j={ A.r j with ticks:=tk,applied:=((A.r j).commit.toNat:Int),jumped:=false,news:= [] }):=by
 have hT:∀j,j<n->TC (A.r j) j n (A.r j).tick:=fun j a=>jo (hv.me j a) (hv.nn j a) (hv.out j a) a h2 hv.n5 (by have:=(hv.q j a).bt;omega)
 have s:=(hv.q L hs.ln).tl hs.role;have m:=hs.tk;have b:∀j,j<n->j≠L->(A.r j).tick={ A.r j with ticks:=(A.r j).ticks+1 }:=fun j a d=>by
  obtain⟨y,x,w,v⟩:=hs.all j a d;rcases hT j a with⟨f, -, -⟩ | ⟨f,o, -, -⟩ | ⟨-, -,e⟩
  ·omega
  ·omega
  ·exact e
 have h:(t=3/\(A.r L).tick={ A.r L with ticks:=0,out:=(bh n L).map fun i:Nat=>((i:Int),({ A.r L with ticks:=0 }:aa).nextL i) })\/(t≠3/\(A.r L).tick={ A.r L with ticks:=(A.r L).ticks+1 }):=by
  rcases hT L hs.ln with⟨f,o,e⟩ | ⟨f, -, -, -⟩ | ⟨l, -,e⟩
  ·exact .inl ⟨by omega,e⟩
  ·exact absurd hs.role f
  ·have:=l hs.role;exact .inr ⟨by omega,e⟩
 rw[jU];refine⟨?_,fun j a=> ?_⟩
 ·show A.ls++(List.range n).flatMap (fun j=>aQ j (A.r j).tick)=_;rw[rq (F:=fun j=>aQ j (A.r j).tick) n hs.ln (fun j a d=>by
   show aQ j (A.r j).tick= []
   rw[b j a d];exact ke (hv.out j a))]
  congr 1
  rcases h with⟨g,e⟩ | ⟨g,e⟩
  ·rw[if_pos g,e];unfold aQ pf;rw[List.map_map];refine List.map_congr_left fun i _=> ?_
   show(L,((i:Int)).toNat,_)=(L,i,_)
   rw[Int.toNat_natCast];rfl
  ·rw[if_neg g,e];exact ke (hv.out L hs.ln)
 ·show ∃tk,(if j<n then bM (A.r j).tick else A.r j)=_;rw[if_pos a];have c:=hv.out j a;by_cases e:j=L
  ·subst e;rcases h with⟨-,e⟩ | ⟨-,e⟩
   ·exact⟨0,by rw[e];unfold bM;rw[<-c]⟩
   ·exact⟨_,by rw[e];unfold bM;rw[<-c]⟩
  ·exact⟨_,by rw[b j a e];unfold bM;rw[<-c]⟩
end
section
variable {n i j k c m cc p N L b : Nat} {A A' B : AS} {R S : aa} {f : Nat} {x : ax} {r : Nat -> aa} {l : List L3} {T t : Int}
theorem xb(c:R.line.Good)(h0:1<=R.nxt.getD f 0)(h1:R.nxt.getD f 0<=R.line.last+1):vL R.line.last R.line.base (R.nextL f)<=R.line.last.toNat+32:=by
 have h:=c.b0;have g:R.line.last=R.line.base+(R.line.l.length:Int):=rfl;by_cases e:R.nxt.getD f 0<=R.line.last
 ·obtain⟨a,b⟩:=mg (f:=f) c rfl e;by_cases d:R.nxt.getD f 0<=R.line.base
  ·rw[a d];omega
  ·rw[b (by omega)];omega
 ·unfold aa.nextL;rw[if_neg (by omega),lV rfl];show(R.line.last-(R.nxt.getD f 0-1)).toNat+16+(if ((R.line.from_ (R.nxt.getD f 0-1+1) 16).length:Int)<16/\(R.nxt.getD f 0-1)+((R.line.from_ (R.nxt.getD f 0-1+1) 16).length:Int)<R.line.last then 16 else 0)+(if (R.nxt.getD f 0-1)+((R.line.from_ (R.nxt.getD f 0-1+1) 16).length:Int)<R.line.base then 40 else 0)<=_;rw[if_neg (by omega),if_neg (by omega)];omega
theorem rp(ok:R.Ok)(f:Nat):0<=R.mat.getD f 0:=by
 rw[List.getD_eq_getElem?_getD];cases h9:R.mat[f]? with
 | none=>exact Int.le_refl _
 | some v=>exact(ok.mss v (List.mem_of_getElem? h9)).1
theorem jr{α:Type}{v:α->Nat}{b:Nat}:∀(l:List α),(∀y∈l,v y<=b)->(l.map v).sum<=l.length*b
 | [],_=>by simp
 | y::l,h=>by have d:=jr l (fun z a=>h z (List.mem_cons_of_mem _ a));have c:=h y List.mem_cons_self;rw[List.map_cons,List.sum_cons,List.length_cons,Nat.succ_mul];omega
theorem yk(a:Vw n k p A)(hL:L<n)(hr:(A.r L).role=2):((pf n L (A.r L)).map fun y=>vL (A.r L).line.last (A.r L).line.base y.2.2).sum<=4*((A.r L).line.last.toNat+32):=by
 have l:=a.n5;have e:=a.ok L hL;have j:=jr (v:=fun y:L3=>vL (A.r L).line.last (A.r L).line.base y.2.2) (b:=(A.r L).line.last.toNat+32) (pf n L (A.r L)) (fun y f=>by obtain⟨i,g,rfl⟩:=List.mem_map.1 f;obtain⟨c,d⟩:=cd.1 g;have o:=(a.q L hL).nx hr i (by omega) d;have m:=rp e i;exact xb e.line (by omega) (a.nxl L hL hr i c))
 have h:(pf n L (A.r L)).length<=4:=by unfold pf;rw[List.length_map];have:=dv hL;omega
 exact Nat.le_trans j (Nat.mul_le_mul_right _ h)
theorem ug(hs:de n L T t A.r)(hv:Vw n k p A)(h2:2<=n)(hk:k<1099511627776):
  ((AS.ticks n A).r L).line=(A.r L).line/\((AS.ticks n A).r L).commit=(A.r L).commit/\phi n L (AS.ticks n A)<=phi n L A+(if t=3 then 4*((A.r L).line.last.toNat+32) else 0)/\(t=3->iy n L T (AS.ticks n A).r (AS.ticks n A).ls)/\
   (iy n L T A.r A.ls->iy n L T (AS.ticks n A).r (AS.ticks n A).ls):=by
 obtain⟨j,x⟩:=jt hs hv h2 hk;obtain⟨z,f⟩:=x L hs.ln;have o:((AS.ticks n A).r L).line=(A.r L).line:=by rw[f]
 have m:((AS.ticks n A).r L).mat=(A.r L).mat:=by rw[f]
 have l:((AS.ticks n A).r L).nxt=(A.r L).nxt:=by rw[f]
 have q:((AS.ticks n A).r L).commit=(A.r L).commit:=by rw[f]
 refine⟨o,q,?_,fun c g i b=> .inr ?_,fun v g i b=> ?_⟩
 ·have w:dL n L ((AS.ticks n A).r L)=dL n L (A.r L):=by unfold dL;rw[m,l]
  unfold phi;rw[w,o,j,List.map_append,List.sum_append];by_cases c:t=3
  ·rw[if_pos c,if_pos c];have:=yk hv hs.ln hs.role;omega
  ·rw[if_neg c,if_neg c]
   simp
 ·rw[j,if_pos c];refine⟨(L,g,(A.r L).nextL g),List.mem_append_right _ (List.mem_map.2 ⟨g,cd.2 ⟨i,b⟩,rfl⟩),?_⟩;have e:=(ep (A.r L) g).2;refine⟨e.trans hs.bt, .inl ⟨rfl,rfl,?_⟩⟩;rw[l];show(((A.r L).nextL g).k=3/\((A.r L).nextL g).a+1=(A.r L).nxt.getD g 0)\/(((A.r L).nextL g).k=5/\(A.r L).nxt.getD g 0<=((A.r L).nextL g).a+1)
  unfold aa.nextL;split
  ·rename_i h
   exact .inr ⟨rfl,by show(A.r L).nxt.getD g 0<=(A.r L).line.base+1;omega⟩
  ·exact .inl ⟨rfl,by show(A.r L).nxt.getD g 0-1+1=_;omega⟩
 ·rcases v g i b with d | ⟨y,s,d⟩
  ·left
   unfold lI CM at d ⊢;rw[o,m,q];exact d
  ·right
   refine⟨y,by rw[j];exact List.mem_append_left _ s,?_⟩;unfold fk at d ⊢;rw[m,l];exact d
theorem nm(l:2<=n)(hL:L<n)(h:iy n L T r []):(r L).commit=(r L).line.last/\∀g,g<n->g≠L->(r L).mat.getD g 0=(r L).line.last:=by
 have d:∀g,g<n->g≠L->lI n L g (r L):=fun g b a=>by
  rcases h g b a with c | ⟨y,f, -⟩
  ·exact c
  ·cases f
 refine⟨?_,fun g b a=>(d g b a).1⟩;obtain⟨g,b,a⟩:∃g,g<n/\g≠L:=by
  by_cases e:L=0
  ·exact⟨1,by omega,by omega⟩
  ·exact⟨0,by omega,by omega⟩
 rcases (d g b a).2 with c | ⟨q,j,i,k⟩
 ·exact c
 ·have:=(d q j i).1;omega
end
section
variable {n i j k c m cc p N L b : Nat} {A A' B : AS} {R S : aa} {f : Nat} {x : ax} {r : Nat -> aa} {l : List L3} {T t : Int}
theorem de.stb_ticks(hs:de n L T t A.r)(hv:Vw n k p A)(h2:2<=n)(hk:k<1099511627776):oz n L T (AS.ticks n A).r:=by obtain⟨-,d⟩:=jt hs hv h2 hk;have b:=hs.stb;obtain⟨f,e⟩:=d L hs.ln;refine⟨hs.ln,by rw[e];exact b.role,by rw[e];exact b.bt,fun j c a=> ?_⟩;obtain⟨f,e⟩:=d j c;rw[e];exact b.all j c a
def rE(t:Int)(R:aa):Nat:=if t=3 then 4*(R.line.last.toNat+32) else 0
def um(t:Int):Int:=if t=3 then 0 else t+1
theorem iO(e:2<=n)(hN:N=4000)(h5:n<=5)(hm:m+10<=3990)(hp:p+5<=1900)(hk:k+5<=1000000)(hA:Kn n cc k p m A)(hc:cc+4010<=1000000)(h:de n L T t A.r):
  de n L T (um t) (A.fair1 N n).r/\((A.fair1 N n).r L).line=(A.r L).line/\phi n L (A.fair1 N n)<=phi n L A+rE t (A.r L)/\((A.fair1 N n).ls= []\/phi n L (A.fair1 N n)+32000<=phi n L A+rE t (A.r L))/\(iy n L T A.r A.ls\/t=3->iy n L T (A.fair1 N n).r (A.fair1 N n).ls):=by
 have f:=hA.vw h5;have i:Kn n (cc+n) (k+n) (p+n) (m+2*n) (AS.ticks n A):=Kn.ticks h5 hm hk (by omega) (by omega) hA n (Nat.le_refl _);have g:=h.stb_ticks f e (by omega);obtain⟨s, -,l,q,o⟩:=ug h f e (by omega);obtain⟨w,v,c⟩:=qA h5 (by omega) (by omega) N _ _ i (by omega) g;have b:rE t (A.r L)=if t=3 then 4*((A.r L).line.last.toNat+32) else 0:=rfl
 rw[<-b]at l;refine⟨?_,w.trans s,Nat.le_trans v l,?_,fun a=> ?_⟩
 ·rcases h.tick e hN h5 hm hp hk hA hc with⟨j, -,d⟩ | ⟨j, -,d⟩
  ·unfold um;rw[if_neg (by omega)];exact d
  ·unfold um;rw[if_pos j];exact d
 ·rcases c with c | c
  ·exact .inl c
  ·right
   show phi n L ((AS.ticks n A).dels N)+32000<=_;omega
 ·refine oU h5 (by omega) (by omega) N _ _ i (by omega) g ?_;rcases a with a | a
  ·exact o a
  ·exact q a
end
section
variable {n i j k c m cc p N L b : Nat} {A A' B : AS} {R S : aa} {f : Nat} {x : ax} {r : Nat -> aa} {l : List L3} {T t : Int}
theorem tF(z:2<=n)(hN:N=4000)(h5:n<=5){K:Nat}(M:K<=16000)(d:Nat):∀ {A:AS} {cc k p m:Nat} {t:Int},m+10*d<=3990->p+5*d<=1900->k+5*d<=1000000->cc+4010*d<=1000000->Kn n cc k p m A->de n L T t A.r->iy n L T A.r A.ls->4*((A.r L).line.last.toNat+32)=K->0<=t->t<=3->4*phi n L A+K*t.toNat<(128000-K)*d->
  ∃s t',1<=s/\s<=d/\(AS.fairs N n s A).ls= []/\iy n L T (AS.fairs N n s A).r []/\de n L T t' (AS.fairs N n s A).r/\((AS.fairs N n s A).r L).line=(A.r L).line:=by
 induction d with
 | zero=>intro A cc k p m t _ _ _ _ _ _ _ _ _ _ h;omega
 | succ d ih=>
  intro A cc k p m t H G I J j w x b v q y;obtain⟨o,g,R,l,c⟩:=iO z hN h5 (by omega) (by omega) (by omega) j (by omega) w;have c:=c (.inl x);by_cases he:(A.fair1 N n).ls= []
  ·refine⟨1,_,Nat.le_refl _,by omega,he,?_,o,g⟩;rw[he]at c;exact c
  ·have l:=l.resolve_left he;have f:=Kn.fair1 hN h5 (by omega) (by omega) (by omega) (by omega) j;have i:4*rE t (A.r L)+K*(um t).toNat<=K*t.toNat+K:=by
    unfold rE um;by_cases e:t=3
    ·rw[if_pos e,if_pos e,b,e];show 4*K+K*0<=K*3+K;omega
    ·rw[if_neg e,if_neg e,show(t+1).toNat=t.toNat+1 by omega,Nat.mul_succ];omega
   have a:0<=um t/\um t<=3:=by unfold um;split<;>omega
   rw[Nat.mul_succ]at y;obtain⟨s,t',P,O,F,D,C,B⟩:=ih (A:=A.fair1 N n) (by omega) (by omega) (by omega) (by omega) f o c (by rw[g];exact b) a.1 a.2 (by omega);exact⟨s+1,t',by omega,by omega,F,D,C,B.trans g⟩
end
structure Com (n L:Nat) (T:Int) (r:Nat->aa) (ls:List L3):Prop where
 mat:∀g,g<n->g≠L->(r g).role=0/\(r L).mat.getD g 0=(r L).line.last
 com:∀g,g<n->g≠L->(r L).line.last<=(r g).commit\/∃y∈ls,y.1=L/\y.2.1=g/\y.2.2.k=3/\y.2.2.t=T/\y.2.2.a=(r L).line.last/\y.2.2.o=(r L).line.last
section
variable {n i j k c m cc p N L b : Nat} {A A' B : AS} {R S : aa} {f : Nat} {x : ax} {r : Nat -> aa} {l : List L3} {T t : Int}
theorem xq(h:R.mat.length=7)(hf:f<7)(hfL:f≠L)(hL:L<7)(hm:R.me=L)(g:Nat)(hgL:g≠L):R.mat.getD g 0<=(R.got f x).mat.getD g 0:=by
 unfold aa.got;split
 ·exact Int.le_refl _
 ·simp only[Int.toNat_natCast];split
  ·obtain⟨d,b⟩:∃d:aa,d={ R with mat:=R.mat.set f (max (R.mat.getD f 0) x.a),nxt:=R.nxt.set f (max (R.nxt.getD f 0) (x.a+1)) }:=⟨_,rfl⟩
   rw[<-b];obtain⟨m,c,k,j, -⟩:=ch d;have i:R.mat.getD g 0<=m.getD g 0:=by
    have e:d.me.toNat=L:=by rw[b];show R.me.toNat=L;omega
    rw[j,e,bi _ _ _ _ (by rw[b];simp[h];omega),if_neg (fun e=>hgL e),b];show _<=(R.mat.set f _).getD g 0;rw[bi _ _ _ _ (by omega)];split
    ·rename_i e;subst e;omega
    ·exact Int.le_refl _
   rw[k];split
   ·rw[ei];exact i
   ·exact i
  ·split
   ·rw[ei];exact Int.le_refl _
   ·exact Int.le_refl _
theorem vX(hs:oz n L T r)(hv:Vw n k p ⟨r,(f,j,x)::l⟩)(hx:Vx n ⟨r,(f,j,x)::l⟩)(hx':Vx n ⟨db r f j x,l++aQ j (han r f j x)⟩)(hh:Com n L T r ((f,j,x)::l))(hln:(db r f j x L).line=(r L).line):Com n L T (db r f j x) (l++aQ j (han r f j x)):=by
 have A:=hs.step hv;obtain⟨J,v,I⟩:=hv.f _ List.mem_cons_self;have J:f<n:=J;have v:j<n:=v;have I:f≠j:=I;have a1:=hv.n5;have Y:=hv.me j v;have hn:=hv.nn j v;have a0:=hv.out j v;have c:=hv.right _ List.mem_cons_self;have c:aO x=true:=c;have Z:x.t<=T:=Int.le_trans (hv.t _ List.mem_cons_self) (hs.le f J);have S:(r j).bt=T:=by
  by_cases e:j=L
  ·subst e;exact hs.bt
  ·exact(hs.all j v e).1
 have z:=cR (R:=r j) Y hn J I c;have P:(r j).stepUp x.t=r j:=by rw[dZ,if_neg (by omega)]
 rw[P]at z;have z:HC (r j) f x (han r f j x):=z;have B:∀g,g<n->g≠L->(db r f j x L).mat.getD g 0=(db r f j x L).line.last:=fun g s b=>by
  have h6:=(hh.mat g s b).2;by_cases e:j=L
  ·subst e;have U:=hx'.mat j v A.role g s;have U:(db r f j x j).mat.getD g 0<=(db r f j x j).line.last:=U;have h8:(r j).mat.getD g 0<=(db r f j x j).mat.getD g 0:=by
    rw[kf];show _<=(han r f j x).mat.getD g 0;cases z with
    | ask yes H hk d e=>rw[e];exact Int.le_refl _
    | vote hk hr ht d e=>have:=hs.role;omega
    | still e hh=>rw[e];exact Int.le_refl _
    | refuse hk ht e=>rw[e];exact Int.le_refl _
    | follow hk ht hr e=>exact absurd hs.role hr
    | got hk hr ht e=>rw[e];exact xq (hv.ok j v).m7 (by omega) I (by omega) Y g b
   rw[hln]at U ⊢;omega
  ·rw[pD (fun h=>e h.symm)];exact h6
 refine⟨fun g s b=>⟨(A.all g s b).2.1,B g s b⟩,fun g s b=> ?_⟩;rw[hln];have D:∀q:Int,q<=(r j).commit->j≠L->q<=(db r f j x j).commit:=fun q w C=>by
  rw[kf];show q<=(han r f j x).commit;cases z with
  | ask yes H hk d e=>rw[e];exact w
  | vote hk hr ht d e=>have:=(hs.all j v C).2.1;omega
  | still e hh=>rw[e];exact w
  | refuse hk ht e=>rw[e];exact w
  | follow hk ht hr e=>
   rw[e];split
   ·rcases gY ((r j).foll f) f x with⟨i, -⟩ | ⟨-,i⟩ | ⟨-,H,i⟩
    ·rw[i];exact w
    ·rw[i];exact w
    ·rw[i];show q<=max (r j).commit _;omega
   ·rcases iN ((r j).foll f) f x with⟨-,i⟩ | ⟨m,i⟩
    ·rw[i];exact w
    ·rw[i];have m:(r j).commit<x.a:=m;show q<=x.a;omega
  | got hk hr ht e=>have:=(hs.all j v C).2.1;omega
 by_cases V:g=j
 ·subst V;rcases hh.com g s b with m | ⟨y,d,m⟩
  ·exact .inl (D _ m b)
  ·rcases List.mem_cons.1 d with e | d
   ·subst e;obtain⟨M,y2,G,F,X,W⟩:=m;have M:f=L:=M;have G:x.k=3:=G;have F:x.t=T:=F;have X:x.a=(r L).line.last:=X;have W:x.o=(r L).line.last:=W;subst M
    left
    obtain⟨-,O,N⟩:=hx.snd _ List.mem_cons_self G hs.role (by show(r f).bt=x.t;rw[hs.bt,F]) (by show(r g).bt=x.t;rw[S,F]);have O:¬(((r g).line.join x.a x.u x.its).2.2=true/\0<((r g).line.join x.a x.u x.its).2.1/\((r g).line.join x.a x.u x.its).2.1<=(r g).commit):=O;have N:((r g).line.join x.a x.u x.its).2.2=false->(r f).mat.getD g 0<x.a:=N;have hmg:=(hh.mat g s b).2;rw[kf];show(r f).line.last<=(han r f g x).commit;obtain⟨b1,b2,b3⟩:=hs.all g s b;cases z with
    | ask yes H hk' d e=>omega
    | vote hk' hr ht d e=>omega
    | still e hh=>omega
    | refuse hk' ht e=>omega
    | follow hk' ht hr e=>
     rw[if_pos G]at e;rcases gY ((r g).foll f) f x with⟨-,i⟩ | ⟨h4, -⟩ | ⟨-,H,i⟩
     ·exact absurd i O
     ·have:=N h4;omega
     ·rw[e,i];show _<=max (r g).commit (min x.o (x.a+x.its.length));omega
    | got hk' hr ht e=>omega
   ·exact .inr ⟨y,List.mem_append_left _ d,m⟩
 ·rw[pD V];rcases hh.com g s b with m | ⟨y,d,m⟩
  ·exact .inl m
  ·rcases List.mem_cons.1 d with e | d
   ·subst e;exact absurd m.2.1.symm V
   ·exact .inr ⟨y,List.mem_append_left _ d,m⟩
end
structure iA (n L:Nat) (T t:Int) (A:AS):Prop where
 st:de n L T t A.r
 nil:A.ls= []
 lv:iy n L T A.r []
section
variable {n i j k c m cc p N L b : Nat} {A A' B : AS} {R S : aa} {f : Nat} {x : ax} {r : Nat -> aa} {l : List L3} {T t : Int}
theorem rz(b:n<=5)(hm:m<=3990)(hp:p<=1900):∀(d:Nat) (A:AS) (cc:Nat),Kn n cc k p m A->cc+d<=1000000->oz n L T A.r->Com n L T A.r A.ls->Com n L T (A.dels d).r (A.dels d).ls
 | 0,A,cc,_,_,_,h=>h
 | d+1,A,cc,hl,hc,hs,h=>by
  have e:=oz.dels b hm hp 1 A cc hl (by omega) hs;have a:=hl.del b (by omega) hm hp;refine rz b hm hp d A.del (cc+1) a (by omega) e ?_;have g:=hl.vw b;have i:=hl.vx hm;have c:=a.vx hm;obtain⟨r,ls⟩:=A;cases ls with
  | nil=>exact h
  | cons y l=>obtain⟨f,j,x⟩:=y;exact vX hs g i c h (qz hs g).1
theorem iA.nxt(h:iA n L T t A)(hv:Vw n k p A)(h2:2<=n){g:Nat}(a:g<n)(hgL:g≠L):(A.r L).nxt.getD g 0=(A.r L).line.last+1/\(A.r L).mat.getD g 0=(A.r L).line.last:=by have c:=hv.n5;have b:=(nm h2 h.st.ln h.lv).2 g a hgL;have e:=(hv.q L h.st.ln).nx h.st.role g (by omega) hgL;have d:=hv.nxl L h.st.ln h.st.role g a;exact⟨by omega,b⟩
theorem iA.phi(h:iA n L T t A)(hv:Vw n k p A)(h2:2<=n):phi n L A=0:=by
 unfold Go.Proofs.YtogcnfhmcpkdcaaGreat.phi;rw[h.nil];show 0+dL n L (A.r L)=0;unfold dL;have j:=jr (v:=fun f=>40*((A.r L).nxt.getD f 0-((A.r L).mat.getD f 0+1)).toNat) (b:=0) (bh n L) (fun g a=>by obtain⟨d,c⟩:=cd.1 a;obtain⟨i,e⟩:=h.nxt hv h2 d c;omega)
 omega
theorem iA.step(j:2<=n)(hN:N=4000)(h5:n<=5)(hm:m+10<=3990)(hp:p+5<=1900)(hk:k+5<=1000000)(hA:Kn n cc k p m A)(hc:cc+4010<=1000000)(h:iA n L T t A):
  iA n L T (um t) (A.fair1 N n)/\((A.fair1 N n).r L).line=(A.r L).line/\(t=3\/(∀g,g<n->g≠L->(A.r L).line.last<=(A.r g).commit)->∀g,g<n->g≠L->(A.r L).line.last<=((A.fair1 N n).r g).commit):=by
 have v:=hA.vw h5;have P:Kn n (cc+n) (k+n) (p+n) (m+2*n) (AS.ticks n A):=Kn.ticks h5 hm hk (by omega) (by omega) hA n (Nat.le_refl _);have G:=h.st.stb_ticks v j (by omega);obtain⟨V,J,a3,s,U⟩:=iO j hN h5 hm hp hk hA hc h.st;have F:=h.phi v j;have z:=hA.last h.st.ln;have c:(A.fair1 N n).ls= []:=by
  rcases s with s | s
  ·exact s
  ·exfalso;unfold rE at s;split at s<;>omega
 have w:=U (.inl (by rw[h.nil];exact h.lv));rw[c]at w;refine⟨⟨V,c,w⟩,J,fun f g O B=> ?_⟩;obtain⟨R,I⟩:=jt h.st v j (by omega);obtain⟨X,e⟩:=I L h.st.ln;have i:=(nm j h.st.ln h.lv).1;have x:Com n L T (AS.ticks n A).r (AS.ticks n A).ls:=by
  refine⟨fun q d b=> ?_,fun q d b=> ?_⟩
  ·refine⟨(G.all q d b).2.1,?_⟩;rw[e];exact(h.nxt v j d b).2
  ·obtain⟨W,S⟩:=I q d;rw[e,S];rcases f with M | f
   ·right
    rw[R,if_pos M];refine⟨(L,q,(A.r L).nextL q),List.mem_append_right _ (List.mem_map.2 ⟨q,cd.2 ⟨d,b⟩,rfl⟩),rfl,rfl,?_⟩;obtain⟨Z,Y⟩:=h.nxt v j d b;have hb:(A.r L).line.base<=(A.r L).line.last:=by show(A.r L).line.base<=(A.r L).line.base+((A.r L).line.l.length:Int);omega
    show((A.r L).nextL q).k=3/\((A.r L).nextL q).t=T/\((A.r L).nextL q).a=(A.r L).line.last/\((A.r L).nextL q).o=(A.r L).line.last;unfold aa.nextL;rw[if_neg (by omega)];refine⟨rfl,h.st.bt,?_,?_⟩
    ·show(A.r L).nxt.getD q 0-1=_;omega
    ·exact i
   ·exact .inl (f q d b)
 have C:=rz h5 (by omega) (by omega) N _ _ P (by omega) G x;have C:Com n L T (A.fair1 N n).r (A.fair1 N n).ls:=C;rcases C.com g O B with H | ⟨y,D, -⟩
 ·rw[J]at H;exact H
 ·rw[c]at D;cases D
end
section
variable {n i j k c m cc p N L b : Nat} {A A' B : AS} {R S : aa} {f : Nat} {x : ax} {r : Nat -> aa} {l : List L3} {T t : Int}
theorem yN{last base:Int}(b:0<=x.a)(ho:0<=x.o):vL last base x<=last.toNat+72:=by
 unfold vL;split
 ·omega
 ·split
  ·omega
  ·split
   ·split<;>split<;>omega
   ·split
    ·split<;>omega
    ·split
     ·split<;>split<;>omega
     ·omega
theorem xX{M:Nat}(a:Vw n k p A)(hL:L<n)(hr:(A.r L).role=2)(hM:(A.r L).line.last<=M):phi n L A<=p*(M+72)+4*(40*M):=by
 have o:=a.n5;unfold phi;have s:=jr (v:=fun y:L3=>vL (A.r L).line.last (A.r L).line.base y.2.2) (b:=M+72) A.ls (fun y d=>by obtain⟨-, -,l, -,j, -⟩:=aH (a.right y d);have:=yN (x:=y.2.2) (last:=(A.r L).line.last) (base:=(A.r L).line.base) l.1 j.1;omega)
 have q:=jr (v:=fun f=>40*((A.r L).nxt.getD f 0-((A.r L).mat.getD f 0+1)).toNat) (b:=40*M) (bh n L) (fun g e=>by obtain⟨c,i⟩:=cd.1 e;have h:=a.nxl L hL hr g c;have m:=rp (a.ok L hL) g;omega)
 have c:=dv hL;have i:(bh n L).length*(40*M)<=4*(40*M):=Nat.mul_le_mul_right _ (by omega);have h:A.ls.length*(M+72)<=p*(M+72):=Nat.mul_le_mul_right _ a.bag;unfold dL;omega
theorem sG(i:2<=n)(hN:N=4000)(h5:n<=5)(q:Nat):∀ {A:AS} {cc k p m:Nat} {t:Int},m+10*(q+1)<=3990->p+5*(q+1)<=1900->k+5*(q+1)<=1000000->cc+4010*(q+1)<=1000000->Kn n cc k p m A->de n L T t A.r->t+q=3->
  de n L T 0 (AS.fairs N n (q+1) A).r/\iy n L T (AS.fairs N n (q+1) A).r (AS.fairs N n (q+1) A).ls/\((AS.fairs N n (q+1) A).r L).line=(A.r L).line/\phi n L (AS.fairs N n (q+1) A)<=phi n L A+4*((A.r L).line.last.toNat+32):=by
 induction q with
 | zero=>
  intro A cc k p m t o l s v d f c;obtain⟨a,h,b, -,z⟩:=iO i hN h5 (by omega) (by omega) (by omega) d (by omega) f;have c:t=3:=by omega
  unfold um at a;unfold rE at b;rw[if_pos c]at a b;exact⟨a,z (.inr c),h,b⟩
 | succ q ih=>
  intro A cc k p m t o l s v d f c;obtain⟨a,h,b, -, -⟩:=iO i hN h5 (by omega) (by omega) (by omega) d (by omega) f;have e:t≠3:=by omega
  unfold um at a;unfold rE at b;rw[if_neg e]at a b;have g:=Kn.fair1 hN h5 (by omega) (by omega) (by omega) (by omega) d;obtain⟨y,x,j,w⟩:=ih (A:=A.fair1 N n) (by omega) (by omega) (by omega) (by omega) g a (by omega);rw[dz];rw[h]at j w;exact⟨y,x,j,by omega⟩
end
section
variable {n i j k c m cc p N L b : Nat} {A A' B : AS} {R S : aa} {f : Nat} {x : ax} {r : Nat -> aa} {l : List L3} {T t : Int}
theorem de.t3(h:de n L T t A.r)(hv:Vw n k p A):0<=t/\t<=3:=by have c:=(hv.q L h.ln).tl h.role;have b:=(hv.ok L h.ln).tk0;have a:=h.tk;omega
theorem iA.fairs(y:2<=n)(hN:N=4000)(h5:n<=5)(q:Nat):∀ {A:AS} {cc k p m:Nat} {t:Int},m+10*q<=3990->p+5*q<=1900->k+5*q<=1000000->cc+4010*q<=1000000->Kn n cc k p m A->iA n L T t A->((∀g,g<n->g≠L->(A.r L).line.last<=(A.r g).commit)\/4<=t+q)->
  (∃t',iA n L T t' (AS.fairs N n q A))/\((AS.fairs N n q A).r L).line=(A.r L).line/\∀g,g<n->g≠L->(A.r L).line.last<=((AS.fairs N n q A).r g).commit:=by
 induction q with
 | zero=>
  intro A cc k p m t s o v w c h a;have x:=h.st.t3 (c.vw h5);rcases a with a | a
  ·exact⟨⟨t,h⟩,rfl,a⟩
  ·omega
 | succ q ih=>
  intro A cc k p m t s o v w c h a;have x:=h.st.t3 (c.vw h5);obtain⟨B,l,j⟩:=h.step y hN h5 (by omega) (by omega) (by omega) c (by omega);have d:=Kn.fair1 hN h5 (by omega) (by omega) (by omega) (by omega) c;have b:(∀g,g<n->g≠L->((A.fair1 N n).r L).line.last<=((A.fair1 N n).r g).commit)\/4<=um t+q:=by
   rw[l];rcases a with a | a
   ·exact .inl (j (.inr a))
   ·by_cases e:t=3
    ·exact .inl (j (.inl e))
    ·right
     unfold um;rw[if_neg e];omega
  obtain⟨z,i,f⟩:=ih (A:=A.fair1 N n) (by omega) (by omega) (by omega) (by omega) d B b;rw[l]at i f;exact⟨z,i,f⟩
theorem uY(a:2<=n)(hN:N=4000)(h5:n<=5){A:AS}{cc k p m M d e:Nat}{t:Int}(I:m+10*e<=3990)(hp:p+5*e<=1900)(hk:k+5*e<=1000000)(hc:cc+4010*e<=1000000)(hA:Kn n cc k p m A)(hs:de n L T t A.r)(hM:(A.r L).line.last<=M)(hK:4*(M+32)<=16000)(hb:4*(p*(M+72)+4*(40*M)+4*(M+32))<(128000-4*(M+32))*d)(hd:d+8<=e):
  (∃t',iA n L T t' (AS.fairs N n e A))/\((AS.fairs N n e A).r L).line=(A.r L).line/\∀g,g<n->g≠L->(A.r L).line.last<=((AS.fairs N n e A).r g).commit:=by
 have h:=hA.vw h5;obtain⟨z,y⟩:=hs.t3 h;obtain⟨q,B⟩:∃q:Nat,t+q=3:=⟨(3-t).toNat,by omega⟩
 obtain⟨F,D,l,J⟩:=sG a hN h5 q (by omega) (by omega) (by omega) (by omega) hA hs B;have f:=Kn.fairs hN h5 (q+1) (by omega) (by omega) (by omega) (by omega) hA;have i:=xX (M:=M) h hs.ln hs.role hM;have C:4*((A.r L).line.last.toNat+32)<=4*(M+32):=by omega
 have j:(128000-4*(M+32))*d<=(128000-4*((A.r L).line.last.toNat+32))*d:=Nat.mul_le_mul_right _ (by omega);obtain⟨s,t',H,G,w,v,b,o⟩:=tF a hN h5 (K:=4*((A.r L).line.last.toNat+32)) (by omega) d (A:=AS.fairs N n (q+1) A) (by omega) (by omega) (by omega) (by omega) f F D (by rw[l]) (by omega) (by omega) (by rw[show((0:Int)).toNat=0 from rfl,Nat.mul_zero];omega);have c:=Kn.fairs hN h5 s (by omega) (by omega) (by omega) (by omega) f;obtain⟨u,x⟩:∃u,e=q+1+(s+u):=⟨e-(q+1)-s,by omega⟩
 obtain⟨c1,c2,c3⟩:=iA.fairs a hN h5 u (A:=AS.fairs N n s (AS.fairs N n (q+1) A)) (by omega) (by omega) (by omega) (by omega) c ⟨b,w,v⟩ (.inr (by have:=(b.t3 (c.vw h5)).1;omega));rw[x,cQ,cQ];rw[o,l]at c2 c3;exact⟨c1,c2,c3⟩
end
section
variable {n i j k c m cc p N L b : Nat} {A A' B : AS}
theorem xw(l:2<=n)(hN:N=4000)(h5:n<=5){A:AS}{cc k m:Nat}(D:m<=1055)(hk:k+2000<=1000000)(hc:cc+800000<=1000000)(hA:Kn n cc k 750 m A):
  ∃L T t,iA n L T t (AS.fairs N n 150 A)/\∀g,g<n->g≠L->((AS.fairs N n 150 A).r L).line.last<=((AS.fairs N n 150 A).r g).commit:=by
 obtain⟨t,q,s,C,⟨L,T,t0,f⟩,i,a⟩:=xr l hN h5 (by omega) (by omega) (by omega) (by omega) hA;have h:=i.last f.ln;have he:150=t+(150-t):=by omega
 have c:(∃b,iA n L T b (AS.fairs N n (150-t) (AS.fairs N n t A)))/\((AS.fairs N n (150-t) (AS.fairs N n t A)).r L).line=((AS.fairs N n t A).r L).line/\∀g,g<n->g≠L->((AS.fairs N n t A).r L).line.last<=((AS.fairs N n (150-t) (AS.fairs N n t A)).r g).commit:=by
  rcases a with⟨B,o,z⟩ | ⟨o,z⟩
  ·subst B;exact uY l hN h5 (p:=q) (m:=s) (M:=1115) (d:=50) (e:=150-6) (by omega) (by omega) (by omega) (by omega) i f (by omega) (by omega) (by rw[o];omega) (by omega)
  ·exact uY l hN h5 (p:=q) (m:=s) (M:=2155) (d:=30) (e:=150-t) (by omega) (by omega) (by omega) (by omega) i f (by omega) (by omega) (by rw[o];omega) (by omega)
 obtain⟨⟨b,x⟩,w,v⟩:=c;rw[<-cQ,<-he]at x w v;refine⟨L,T,b,x,fun g y j=> ?_⟩;rw[w];exact v g y j
end
section
variable {n i j k c m cc p N L : Nat} {A A' B : AS} {R S : aa} {f : Nat} {x : ax} {r : Nat -> aa} {l : List L3} {T t : Int} {b : List UInt8}
theorem mV(o:R.role=2)(hm:R.me=L)(hn:R.n=n)(hg:R.line.Good)(h0:0<=R.bt)(h1:R.bt<=1099511627776)(hl:R.line.last<4000)(hb0:0<b.length)(hb:b.length<=8192):
  ∃(nw:List (List UInt8)) (mt:List Int) (c:Int),mt=R.mat.set L (R.line.last+1)/\c=({ R with line:={ R.line with l:=R.line.l++ [(R.bt,b)] },news:=nw }:aa).look.commit/\
   R.propose b=({ R with line:={ R.line with l:=R.line.l++ [(R.bt,b)] },news:=nw,mat:=mt,commit:=c,out:=R.out++(bh n L).map fun i:Nat=>((i:Int),({ R with line:={ R.line with l:=R.line.l++ [(R.bt,b)] },mat:=mt,commit:=c }:aa).nextL i) },R.line.last+1,0):=by
 have e:=hg.b0;have g:R.line.last=R.line.base+(R.line.l.length:Int):=rfl;have a:R.line.add (R.bt,b)=({ R.line with l:=R.line.l++ [(R.bt,b)] },R.line.last+1):=by
  have h:cL R.line ((R.line.l.length:Int)+1)=true:=by unfold cL;simp only[Bool.and_eq_true,decide_eq_true_eq];omega
  unfold ae.add;rw[if_pos ⟨(br _).2 ⟨h0,h1,hb⟩,h⟩]
 unfold aa.propose;rw[if_neg (by omega),if_neg (by omega),if_neg (by omega)];have m:R.add (R.bt,b)=({ R with line:={ R.line with l:=R.line.l++ [(R.bt,b)] } },R.line.last+1):=by unfold aa.add;rw[a]
 simp only[m];rw[if_neg (by omega)];obtain⟨nw,d⟩:∃nw,({ R with line:={ R.line with l:=R.line.l++ [(R.bt,b)] } }:aa).noteItems (R.line.last+1)={ R with line:={ R.line with l:=R.line.l++ [(R.bt,b)] },news:=nw }:=⟨_,rfl⟩
 rw[d];obtain⟨mt,c,f,k, -⟩:=ch ({ R with line:={ R.line with l:=R.line.l++ [(R.bt,b)] },news:=nw }:aa);rw[f];refine⟨nw,mt,c,?_,by rw[f],?_⟩
 ·rw[k];show R.mat.set R.me.toNat ({ R.line with l:=R.line.l++ [(R.bt,b)] }:ae).last=_;have j:({ R.line with l:=R.line.l++ [(R.bt,b)] }:ae).last=R.line.last+1:=by
   show R.line.base+((R.line.l++ [(R.bt,b)]).length:Int)=_;rw[List.length_append,List.length_singleton];push_cast;omega
  rw[j,hm];rfl
 ·rw[iV (R:={ R with line:={ R.line with l:=R.line.l++ [(R.bt,b)] },news:=nw,mat:=mt,commit:=c }) hm hn];rfl
theorem pz(h2:2<=n)(h:iA n L T t A)(hv:Vw n k p A)(hx:Vx n A)(hb0:0<b.length)(hb:b.length<=8192):
  ((A.r L).propose b).2=((A.r L).line.last+1,0)/\de n L T t (A.put L ((A.r L).propose b).1).r/\iy n L T (A.put L ((A.r L).propose b).1).r (A.put L ((A.r L).propose b).1).ls/\((A.put L ((A.r L).propose b).1).r L).line={ (A.r L).line with l:=(A.r L).line.l++ [((A.r L).bt,b)] }/\((A.put L ((A.r L).propose b).1).r L).line.last=(A.r L).line.last+1/\
   phi n L (A.put L ((A.r L).propose b).1)<=4*17:=by
 have D:=h.st.ln;have hr:=h.st.role;have F:=hv.ok L D;have hsm:=hx.small L D;have h5:=hv.n5;have X:=hv.out L D;obtain⟨nw,V,c,Y, -,e⟩:=mV hr (hv.me L D) (hv.nn L D) F.line F.bt0 F.bt1 (by omega) hb0 hb;have hll:(A.r L).line.last=(A.r L).line.base+((A.r L).line.l.length:Int):=rfl;obtain⟨P,hP⟩:∃P,P=((A.r L).propose b).1:=⟨_,rfl⟩
 rw[<-hP];have S:((A.r L).propose b).2=((A.r L).line.last+1,0):=by rw[e]
 obtain⟨m,w⟩:∃m:ae,m={ (A.r L).line with l:=(A.r L).line.l++ [((A.r L).bt,b)] }:=⟨_,rfl⟩
 obtain⟨Q,H⟩:∃Q:aa,Q={ A.r L with line:=m,mat:=V,commit:=c }:=⟨_,rfl⟩
 have d:P={ A.r L with line:=m,news:=nw,mat:=V,commit:=c,out:=(bh n L).map fun i:Nat=>((i:Int),Q.nextL i) }:=by rw[hP,e,H,w];simp only[X,List.nil_append]
 have N:m.last=(A.r L).line.last+1:=by rw[w];show(A.r L).line.base+(((A.r L).line.l++ [((A.r L).bt,b)]).length:Int)=_;rw[List.length_append,List.length_singleton];push_cast;omega
 have z:m.base=(A.r L).line.base:=by rw[w]
 have o:(A.put L P).r L=bM P:=if_pos rfl;have W:∀j,j≠L->(A.put L P).r j=A.r j:=fun j Z=>if_neg Z
 have M:(A.put L P).ls=(bh n L).map fun i=>(L,i,Q.nextL i):=by
  show A.ls++P.out.map (fun y=>(L,y.1.toNat,y.2))=_;rw[h.nil,List.nil_append,d,List.map_map];refine List.map_congr_left fun i _=> ?_
  show(L,((i:Int)).toNat,_)=(L,i,_)
  rw[Int.toNat_natCast]
 have I:∀g,g<n->g≠L->Q.nxt.getD g 0=(A.r L).line.last+1/\V.getD g 0=(A.r L).line.last:=fun g B s=>by obtain⟨G,U⟩:=h.nxt hv h2 B s;refine⟨by rw[H];exact G,?_⟩;rw[Y,bi _ _ _ _ (by rw[F.m7];omega),if_neg s];exact U
 have hk:∀g,g<n->g≠L->(Q.nextL g).k=3/\(Q.nextL g).t=T/\(Q.nextL g).a+1=Q.nxt.getD g 0/\vL m.last m.base (Q.nextL g)<=17:=fun g B s=>by
  obtain⟨G,U⟩:=I g B s;have x:Q.line=m:=by rw[H]
  have C:m.Good:=by
   have h9:=F.line.add ((A.r L).bt,b);have e9:((A.r L).line.add ((A.r L).bt,b)).1=m:=by
    rcases iw (A.r L).line ((A.r L).bt,b) with e8 | ⟨e8, -⟩
    ·exfalso;have h8:=congrArg (fun q:aa=>q.line.last) hP;rw[d]at h8;have h8:m.last=((A.r L).propose b).1.line.last:=h8;have h7:((A.r L).propose b).2.1=(A.r L).line.last+1:=by rw[S]
     unfold aa.propose at h7;rw[if_neg (by omega),if_neg (by omega),if_neg (by omega)]at h7;have e0:(A.r L).add ((A.r L).bt,b)=(A.r L,0):=by unfold aa.add;rw[e8]
     simp only[e0,if_true]at h7;have:=F.line.b0;omega
    ·rw[e8,w]
   rw[e9]at h9;exact h9
  have hw:=(mg (R:=Q) (f:=g) (by rw[x];exact C) G (by rw[x];omega)).2 (by rw[x,z];omega);rw[x]at hw;have J:¬Q.nxt.getD g 0<=Q.line.base:=by rw[x,z,G];omega
  refine⟨?_,?_,?_,by rw[hw];omega⟩
  ·unfold aa.nextL;rw[if_neg J]
  ·rw[(ep Q g).2,H];exact h.st.bt
  ·unfold aa.nextL;rw[if_neg J];show Q.nxt.getD g 0-1+1=_;omega
 refine⟨S,⟨D,?_,?_,?_,fun j Z O=> ?_⟩,fun g B s=> .inr ?_,?_,?_,?_⟩
 ·rw[o];show P.role=2;rw[d];exact hr
 ·rw[o];show P.bt=T;rw[d];exact h.st.bt
 ·rw[o];show P.ticks=t;rw[d];exact h.st.tk
 ·rw[W j O];exact h.st.all j Z O
 ·obtain⟨k1,k2,k3, -⟩:=hk g B s;rw[M,o];refine⟨(L,g,Q.nextL g),List.mem_map.2 ⟨g,cd.2 ⟨B,s⟩,rfl⟩,k2, .inl ⟨rfl,rfl, .inl ⟨k1,?_⟩⟩⟩;show(Q.nextL g).a+1=P.nxt.getD g 0;rw[k3,d,H]
 ·rw[o];show P.line=_;rw[d,w]
 ·rw[o];show P.line.last=_;rw[d];exact N
 ·unfold phi;rw[M,o];have e1:(bM P).line=m:=by show P.line=_;rw[d]
  rw[e1];have h1:=jr (v:=fun y:L3=>vL m.last m.base y.2.2) (b:=17) ((bh n L).map fun i=>(L,i,Q.nextL i)) (fun y hy=>by obtain⟨i,hi,rfl⟩:=List.mem_map.1 hy;obtain⟨a1,a0⟩:=cd.1 hi;exact(hk i a1 a0).2.2.2)
  have h3:dL n L (bM P)=0:=by
   unfold dL;have h4:=jr (v:=fun f=>40*((bM P).nxt.getD f 0-((bM P).mat.getD f 0+1)).toNat) (b:=0) (bh n L) (fun g B=>by
    obtain⟨a3,a2⟩:=cd.1 B;obtain⟨G,U⟩:=I g a3 a2;have e3:(bM P).nxt.getD g 0=(A.r L).line.last+1:=by show P.nxt.getD g 0=_;rw[<-G,d,H]
    have e4:(bM P).mat.getD g 0=(A.r L).line.last:=by show P.mat.getD g 0=_;rw[<-U,d]
    show 40*((bM P).nxt.getD g 0-((bM P).mat.getD g 0+1)).toNat<=0;rw[e3,e4];omega)
   omega
  rw[h3];rw[List.length_map]at h1;have h4:=dv D;have h6:(bh n L).length*17<=4*17:=Nat.mul_le_mul_right _ (by omega);omega
end
structure xD (n L:Nat) (a:Int) (b:List UInt8) (A:AS):Prop where
 ln:L<n
 all:∀j,j<n->(A.r j).lead=L/\(A.r j).bt=(A.r L).bt/\a<=(A.r j).commit
 base:(A.r L).line.base<a
 it:((A.r L).item a).2=b
section
variable {n i j k c m cc p N L : Nat} {A A' B : AS} {R S : aa} {f : Nat} {x : ax} {r : Nat -> aa} {l : List L3} {T t : Int} {b : List UInt8}
theorem oG{S:aa}{x:ae}{it:ar}(h:S.line={ x with l:=x.l++ [it] }):S.item (x.last+1)=it/\S.line.base<x.last+1:=by
 have a:x.last=x.base+(x.l.length:Int):=rfl;have e:({ x with l:=x.l++ [it] }:ae).last=x.last+1:=by show x.base+((x.l++ [it]).length:Int)=_;rw[List.length_append,List.length_singleton];push_cast;omega
 unfold aa.item;rw[h,e,if_pos ⟨by show x.base<_;omega,Int.le_refl _⟩];refine⟨?_,by show x.base<_;omega⟩;show(x.l++ [it]).getD (x.last+1-x.base-1).toNat (0,[])=it;rw[show(x.last+1-x.base-1).toNat=x.l.length by omega]
 simp
theorem Kn.propose(h:Kn n c k p m A)(h5:n<=5)(hc:c<=1000000)(hm:m<=3990)(hp:p+4<=2000)(hi:i<n){b:List UInt8}(a:b.length<=50):Kn n (c+1) (k+4) (p+4) (m+2) (A.put i ((A.r i).propose b).1):=by obtain⟨g,G,h⟩:=h.fi;obtain⟨-,d,h⟩:=h.propose h5 hc hm hp hi a;exact .of h
theorem vv(l:2<=n)(hN:N=4000)(h5:n<=5){A:AS}{cc k m:Nat}(hm:m<=1055)(hk:k+2000<=1000000)(hc:cc+800000<=1000000)(hA:Kn n cc k 750 m A):
  ∃L,L<n/\((AS.fairs N n 150 A).r 0).lead=L/\((AS.fairs N n 150 A).r L).role=2/\∀b:List UInt8,0<b.length->b.length<=50->(((AS.fairs N n 150 A).r L).propose b).2.2=0/\xD n L (((AS.fairs N n 150 A).r L).propose b).2.1 b (AS.fairs N n 12 ((AS.fairs N n 150 A).put L (((AS.fairs N n 150 A).r L).propose b).1)):=by
 obtain⟨L,T,t,a, -⟩:=xw l hN h5 hm hk hc hA;have v:=Kn.fairs hN h5 150 (by omega) (by omega) (by omega) (by omega) hA;obtain⟨B,hB⟩:∃B,B=AS.fairs N n 150 A:=⟨_,rfl⟩
 rw[<-hB]at a v ⊢;have w:=v.vw h5;have hx:=v.vx (by omega);have c:∀ {A:AS} {k p:Nat} {t:Int},de n L T t A.r->Vw n k p A->∀j,j<n->(A.r j).lead=L/\(A.r j).bt=T:=fun {A k p t} y w j f=>by
  by_cases e:j=L
  ·subst e;exact⟨(w.q j f).ld y.role,y.bt⟩
  ·exact⟨(y.all j f e).2.2.1,(y.all j f e).1⟩
 refine⟨L,a.st.ln,(c a.st w 0 (by omega)).1,a.st.role,fun b I hb=> ?_⟩;obtain⟨Z,D,P,O,z,Y⟩:=pz (b:=b) l a w hx I (by omega);have h:=v.propose h5 (by omega) (by omega) (by omega) a.st.ln hb;obtain⟨C,hC⟩:∃C,C=B.put L ((B.r L).propose b).1:=⟨_,rfl⟩
 rw[<-hC]at D P O z Y h ⊢;rw[Z];have J:=h.vw h5;have H:=h.last a.st.ln;obtain⟨t0,t3⟩:=D.t3 J;have G:t.toNat<=3:=by omega
 obtain⟨K,hK⟩:∃K,K=4*((C.r L).line.last.toNat+32):=⟨_,rfl⟩
 have i:K<=16000:=by omega
 have hKt:K*t.toNat<=K*3:=Nat.mul_le_mul_left _ G;obtain⟨s,t',s1,s2,X,W,M,V⟩:=tF l hN h5 (K:=K) i 1 (A:=C) (by omega) (by omega) (by omega) (by omega) h D P hK.symm t0 t3 (by omega);have es:s=1:=by omega
 subst es;have F:=Kn.fairs hN h5 1 (by omega) (by omega) (by omega) (by omega) h;obtain⟨⟨U,c1⟩,c2,c3⟩:=iA.fairs l hN h5 11 (A:=AS.fairs N n 1 C) (by omega) (by omega) (by omega) (by omega) F ⟨M,X,W⟩ (.inr (by have:=(M.t3 (F.vw h5)).1;omega));have o:=Kn.fairs hN h5 11 (by omega) (by omega) (by omega) (by omega) F;rw[<-cQ]at c1 c2 c3 o;have o:Kn n _ _ _ _ (AS.fairs N n 12 C):=o;have c1:iA n L T U (AS.fairs N n 12 C):=c1;have c2:((AS.fairs N n 12 C).r L).line=((AS.fairs N n 1 C).r L).line:=c2;have c3:∀g,g<n->g≠L->((AS.fairs N n 1 C).r L).line.last<=((AS.fairs N n 12 C).r g).commit:=c3;rw[V]at c2 c3;have R:=o.vw h5;have d:=(nm l c1.st.ln c1.lv).1;obtain⟨i1,i2⟩:=oG (S:=(AS.fairs N n 12 C).r L) (x:=(B.r L).line) (it:=((B.r L).bt,b)) (c2.trans O);refine⟨rfl,⟨c1.st.ln,fun j f=> ?_,i2,?_⟩⟩
 ·obtain⟨d1,d2⟩:=c c1.st R j f;obtain⟨-,d3⟩:=c c1.st R L c1.st.ln;refine⟨d1,d2.trans d3.symm,?_⟩;show(B.r L).line.last+1<=_;by_cases e:j=L
  ·rw[e,d,c2,z];exact Int.le_refl _
  ·have:=c3 j f e;rw[z]at this;exact this
 ·show(((AS.fairs N n 12 C).r L).item ((B.r L).line.last+1)).2=b;rw[i1]
end
section
variable {n i j k c m cc p N L : Nat} {A A' B : AS} {R S : aa} {f : Nat} {x : ax} {T t : Int} {b : List UInt8}
theorem qC:bh 1 0= []:=by decide
inductive TO (R:aa) (T:aa):Prop
 | beat (hr:R.role=2) (e:T={ R with ticks:=0 })
 | lead (hr:R.role≠2) (e:T.role=2)
 | wait (hf:R.role≠2->R.ticks+1<20) (e:T={ R with ticks:=R.ticks+1 })
theorem qe(a:R.me=(0:Nat))(hn:R.n=(1:Nat))(ho:R.out= [])(hb:R.bt<1099511627776):TO R R.tick:=by
 unfold aa.tick;simp only;split
 ·rename_i h
  rw[iV (R:={ R with ticks:=0 }) a hn,qC];refine .beat h.1 ?_;simp only[List.map_nil,List.append_nil]
 ·rename_i h
  split
  ·rename_i b
   rw[mI (R:={ R with ticks:=R.ticks+1 }) a hn (by show R.bt<_;omega)];refine .lead b.1 ?_;unfold aa.count;simp only[Int.toNat_natCast];rw[if_pos]
   ·exact lE (j:=0) (n:=1) a hn
   ·rw[mF 0 (by omega)];show bD R.n<=1;rw[hn];decide
  ·rename_i b
   exact .wait (fun e=>by
    rcases Int.lt_or_le (R.ticks+1) 20 with c | c
    ·exact c
    ·exact absurd ⟨e,by show 20+2*R.me<=R.ticks+1;omega⟩ b) rfl
theorem yP(A:AS)(i:Nat)(R:aa):(A.put i R).r i=bM R:=if_pos rfl
theorem x6(a:Vw 1 k p A):A.ls= []:=by
 cases hl:A.ls with
 | nil=>rfl
 | cons y l=>obtain⟨d,c,b⟩:=a.f y (by rw[hl];exact List.mem_cons_self);omega
theorem rt(a:m+10<=3990)(hk:k+5<=1000000)(hp:p+5<=1900)(hc:cc+5<=1000000)(h:Kn 1 cc k p m A):(A.fair1 N 1).r 0=bM (A.r 0).tick:=by have b:=(Kn.ticks (n:=1) (by omega) a hk hp hc h 1 (by omega)).vw (by omega);unfold AS.fair1;rw[iq N (x6 b)];exact gy (by omega)
theorem xG(a:Vw n k p A)(hk:k<=1000000)(hj:j<n):(A.r j).bt<1099511627776:=by have:=(a.q j hj).bt;omega
theorem jW(hN:N=4000):∀(t:Nat) {A:AS} {cc k p m:Nat},m+10*t<=3980->k+5*t<=999990->p+5*t<=1890->cc+4010*t<=990000->Kn 1 cc k p m A->(A.r 0).role=2->
  ((AS.fairs N 1 t A).r 0).role=2/\((AS.fairs N 1 t A).r 0).line=(A.r 0).line/\((AS.fairs N 1 t A).r 0).bt=(A.r 0).bt/\((AS.fairs N 1 t A).r 0).commit=(A.r 0).commit
 | 0,A,cc,k,p,m,_,_,_,_,_,hr=>⟨hr,rfl,rfl,rfl⟩
 | t+1,A,cc,k,p,m,hm,hk,hp,hc,h,hr=>by
  rw[dz];have e:=rt (N:=N) (by omega) (by omega) (by omega) (by omega) h;have g:=Kn.fair1 hN (n:=1) (by omega) (by omega) (by omega) (by omega) (by omega) h;have a:=h.vw (by omega);have d:=qe (a.me 0 (by omega)) (a.nn 0 (by omega)) (a.out 0 (by omega)) (xG a (by omega) (by omega));have b:((A.fair1 N 1).r 0).role=2/\((A.fair1 N 1).r 0).line=(A.r 0).line/\((A.fair1 N 1).r 0).bt=(A.r 0).bt/\((A.fair1 N 1).r 0).commit=(A.r 0).commit:=by
   rw[e];rcases d with⟨-,c⟩ | ⟨f, -⟩ | ⟨-,c⟩
   ·rw[c];exact⟨hr,rfl,rfl,rfl⟩
   ·exact absurd hr f
   ·rw[c];exact⟨hr,rfl,rfl,rfl⟩
  obtain⟨o,l,j,i⟩:=jW hN t (by omega) (by omega) (by omega) (by omega) g b.1;exact⟨o,l.trans b.2.1,j.trans b.2.2.1,i.trans b.2.2.2⟩
theorem qT(hN:N=4000):∀(t:Nat) {A:AS} {cc k p m:Nat},m+10*t<=3980->k+5*t<=999990->p+5*t<=1890->cc+4010*t<=990000->Kn 1 cc k p m A->20<=(A.r 0).ticks+t->((AS.fairs N 1 t A).r 0).role=2
 | 0,A,cc,k,p,m,_,_,_,_,h,ht=>by
  show(A.r 0).role=2;have a:=h.vw (by omega);by_cases b:(A.r 0).role=2
  ·exact b
  ·have:=(a.q 0 (by omega)).tf b;omega
 | t+1,A,cc,k,p,m,hm,hk,hp,hc,h,ht=>by
  by_cases b:(A.r 0).role=2
  ·exact(jW hN (t+1) hm hk hp hc h b).1
  rw[dz];have e:=rt (N:=N) (by omega) (by omega) (by omega) (by omega) h;have d:=Kn.fair1 hN (n:=1) (by omega) (by omega) (by omega) (by omega) (by omega) h;have a:=h.vw (by omega);rcases qe (a.me 0 (by omega)) (a.nn 0 (by omega)) (a.out 0 (by omega)) (xG a (by omega) (by omega)) with⟨f, -⟩ | ⟨-,c⟩ | ⟨-,c⟩
  ·exact absurd f b
  ·exact(jW hN t (by omega) (by omega) (by omega) (by omega) d (by rw[e];exact c)).1
  ·refine qT hN t (by omega) (by omega) (by omega) (by omega) d ?_;rw[e,c];show 20<=(A.r 0).ticks+1+(t:Int)
   push_cast at ht;omega
theorem tX(c:R.line.Good)(h0:0<=R.bt)(h1:R.bt<=1099511627776)(hl:R.line.last<4000)(hb:b.length<=8192):({ R.line with l:=R.line.l++ [(R.bt,b)] }:ae).Good:=by
 have d:=c.b0;have f:R.line.last=R.line.base+(R.line.l.length:Int):=rfl;have a:R.line.add (R.bt,b)=({ R.line with l:=R.line.l++ [(R.bt,b)] },R.line.last+1):=by
  have g:cL R.line ((R.line.l.length:Int)+1)=true:=by unfold cL;simp only[Bool.and_eq_true,decide_eq_true_eq];omega
  unfold ae.add;rw[if_pos ⟨(br _).2 ⟨h0,h1,hb⟩,g⟩]
 have e:=c.add (R.bt,b);rw[a]at e;exact e
theorem vy(hN:N=4000){A:AS}{cc k m:Nat}(hm:m<=1055)(hk:k+2000<=1000000)(hc:cc+800000<=1000000)(hA:Kn 1 cc k 750 m A):
  ∃L:Nat,L<1/\((AS.fairs N 1 150 A).r 0).lead=L/\((AS.fairs N 1 150 A).r L).role=2/\∀b:List UInt8,0<b.length->b.length<=50->(((AS.fairs N 1 150 A).r L).propose b).2.2=0/\xD 1 L (((AS.fairs N 1 150 A).r L).propose b).2.1 b (AS.fairs N 1 12 ((AS.fairs N 1 150 A).put L (((AS.fairs N 1 150 A).r L).propose b).1)):=by
 have w:=Kn.fairs hN (n:=1) (by omega) 150 (by omega) (by omega) (by omega) (by omega) hA;have a:=qT hN 150 (by omega) (by omega) (by omega) (by omega) hA (by have:=((hA.vw (by omega)).ok 0 (by omega)).tk0;omega)
 obtain⟨B,hB⟩:∃B,B=AS.fairs N 1 150 A:=⟨_,rfl⟩
 rw[<-hB]at w a ⊢;have p:=w.vw (by omega);have J:=w.vx (by omega);have f:=p.ok 0 (by omega);have V:=J.small 0 (by omega);refine⟨0,by omega,(p.q 0 (by omega)).ld a,a,fun b D Z=> ?_⟩;obtain⟨O,mt,c9,W,v,e⟩:=mV (L:=0) (n:=1) a (p.me 0 (by omega)) (p.nn 0 (by omega)) f.line f.bt0 f.bt1 (by omega) D (by omega);have y:=w.propose (i:=0) (by omega) (by omega) (by omega) (by omega) (by omega) Z;have X:(B.r 0).line.last=(B.r 0).line.base+((B.r 0).line.l.length:Int):=rfl;obtain⟨d,c⟩:∃d:ae,d={ (B.r 0).line with l:=(B.r 0).line.l++ [((B.r 0).bt,b)] }:=⟨_,rfl⟩
 have s:d.last=(B.r 0).line.last+1:=by rw[c];show(B.r 0).line.base+(((B.r 0).line.l++ [((B.r 0).bt,b)]).length:Int)=_;rw[List.length_append,List.length_singleton];push_cast;omega
 have h:d.Good:=by rw[c];exact tX f.line f.bt0 f.bt1 (by omega) (by omega)
 have z:d.tm d.last=(B.r 0).bt:=by rw[c];exact pv _
 have t:c9=(B.r 0).line.last+1:=by
  rw[<-c]at v;rcases tz (R:={ B.r 0 with line:=d,news:=O }) (L:=0) (n:=1) h (by omega) (p.me 0 (by omega)) (p.nn 0 (by omega)) (by omega) f.m7 (by
   show(B.r 0).commit<=d.last;have:=f.cm;omega) z (fun g Y=>by
   have:=J.mat 0 (by omega) a g Y;show(B.r 0).mat.getD g 0<=d.last;omega) with h9 | ⟨g,h6,h7, -⟩
  ·rw[v];exact h9.trans s
  ·omega
 obtain⟨C,M⟩:∃C,C=B.put 0 ((B.r 0).propose b).1:=⟨_,rfl⟩
 rw[<-M]at y ⊢;have o:C.r 0=bM ((B.r 0).propose b).1:=by rw[M];exact yP B 0 _
 have G:((B.r 0).propose b).2.1=(B.r 0).line.last+1:=by rw[e]
 have F:((B.r 0).propose b).2.2=0:=by rw[e]
 have c1:(C.r 0).role=2:=by rw[o,e];exact a
 have c2:(C.r 0).line=d:=by rw[o,e,c];rfl
 have c4:(C.r 0).commit=(B.r 0).line.last+1:=by rw[o,e];exact t
 obtain⟨d1,d2,d3,d4⟩:=jW hN 12 (by omega) (by omega) (by omega) (by omega) y c1;have P:=Kn.fairs hN (n:=1) (by omega) 12 (by omega) (by omega) (by omega) (by omega) y;have hD:=P.vw (by omega);obtain⟨U,T⟩:=oG (S:=(AS.fairs N 1 12 C).r 0) (x:=(B.r 0).line) (it:=((B.r 0).bt,b)) (d2.trans (c2.trans c));rw[G];refine⟨F,⟨by omega,fun j hj=> ?_,T,by rw[U]⟩⟩;have e0:j=0:=by omega
 subst e0;exact⟨(hD.q 0 (by omega)).ld d1,rfl,by rw[d4,c4];exact Int.le_refl _⟩
theorem vz(h1:1<=n)(hN:N=4000)(h5:n<=5){A:AS}{cc k m:Nat}(a:m<=1055)(hk:k+2000<=1000000)(hc:cc+800000<=1000000)(hA:Kn n cc k 750 m A):
  ∃L:Nat,L<n/\((AS.fairs N n 150 A).r 0).lead=L/\((AS.fairs N n 150 A).r L).role=2/\∀b:List UInt8,0<b.length->b.length<=50->(((AS.fairs N n 150 A).r L).propose b).2.2=0/\xD n L (((AS.fairs N n 150 A).r L).propose b).2.1 b (AS.fairs N n 12 ((AS.fairs N n 150 A).put L (((AS.fairs N n 150 A).r L).propose b).1)):=by
 by_cases e:n=1
 ·subst e;exact vy hN a hk hc hA
 ·exact vv (by omega) hN h5 a hk hc hA
theorem FI.fin{g:Gh}{G:ac}{a:Int}(h:FI g G n c k p m A)(hf:xD n L a b A):1<=a/\a.toNat<=G.seen.length/\(∃tm,G.seen[a.toNat-1]? =some (tm,b))/\(∀j,j<n->∃z,G.ats[j]? =some z/\a<=z)/\a<=1099511627776:=by
 obtain⟨f,J,M,N,O,P⟩:=h.si.ri L _ (h.ab.rs L hf.ln);have S:=(hf.all L hf.ln).2.2;have v:=hf.base;have F:=f.ok.line.b0;have D:=f.ok.cm;have B:=h.si.sn;have y:=f.st.2.1;have o:=f.com;have s:(A.r L).line.last=(g.fl L).length:=by obtain⟨b,v,q⟩:=f.ln;rw[q];exact aN v
 have i:a.toNat<=G.seen.length:=by omega
 have C:=bP f.ok.line;refine⟨by omega,i,?_,fun j t=> ?_,by omega⟩
 ·have e:=ql h.si.ok h.si.seen o (m:=a.toNat) i (by omega);have w:=f.item (k:=a.toNat-1) (by omega) (by omega);have I:((a.toNat-1+1:Nat):Int)=a:=by omega
  rw[I]at w;have d:=hf.it;rw[w]at d;have H:G.seen[a.toNat-1]? =(g.fl L)[a.toNat-1]? :=nE e (by omega);have l:a.toNat-1<(g.fl L).length:=by omega
  rw[List.getD_eq_getElem?_getD,List.getElem?_eq_getElem l]at d;rw[H,List.getElem?_eq_getElem l];refine⟨((g.fl L)[a.toNat-1]).1,?_⟩;have d:((g.fl L)[a.toNat-1]).2=b:=d;rw[<-d]
 ·obtain⟨-, -, -, -,R,x⟩:=h.si.ri j _ (h.ab.rs j t);exact⟨_,x,by have:=(hf.all j t).2.2;omega⟩
end
end Go.Proofs.YtogcnfhmcpkdcaaGreat
