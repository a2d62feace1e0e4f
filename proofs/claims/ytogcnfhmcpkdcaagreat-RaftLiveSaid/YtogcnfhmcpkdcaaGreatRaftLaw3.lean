/-
The plain law of layer 18: what comes to a replica, and what holds of it at any time. No walk.
-/
import Derived.Test.YtogcnfhmcpkdcaaGreatRaftM2
namespace Go.Proofs.YtogcnfhmcpkdcaaGreat
open Go.RowKit
set_option linter.unusedVariables false
set_option linter.unusedSimpArgs false
def aa.asked(R:aa)(f:Int)(x:ax):aa:=
 let an:=ed x.a x.u R.line.last (bk R.line R.line.last).1
 let yes:=bJ R.bt R.bf f x.t an
 let R1:aa:=if yes=true then { R with ticks:=0 } else R
 let R2:aa:=if fY R.bt R.bf f x.t an≠R.bt\/cW R.bt R.bf f x.t an≠R.bf then({ R1 with bt:=fY R.bt R.bf f x.t an,bf:=cW R.bt R.bf f x.t an }:aa).noteBallot else R1
 R2.post f ⟨2,0,0,0,0,yes,[],[]⟩
def aa.said(R:aa)(f:Int)(x:ax):aa:=if R.role=1/\x.t=R.bt/\x.y=true then R.count f else R
def aa.follows(R:aa)(f:Int)(x:ax):aa×Bool:=
 if x.t<R.bt then(R.post f ⟨4,0,0,0,x.a,false,[],[]⟩,false)
 else if R.role=2 then(R,false)
 else({ R with role:=0,lead:=f,ticks:=0 },true)
def aa.sent1(R:aa)(f:Int)(x:ax):aa:=
 let J:=R.line.join x.a x.u x.its
 if J.2.2=true/\0<J.2.1/\J.2.1<=R.commit then R
 else if J.2.2=false then R.post f ⟨4,0,max 0 (min R.line.last (x.a-1)),0,x.a,false,[],[]⟩
 else
  let R1:=if 0<J.2.1 then({ R with line:=J.1 }:aa).noteItems J.2.1 else R
  ({ R1 with commit:=max R1.commit (min x.o (x.a+x.its.length)) }:aa).post f ⟨4,0,x.a+x.its.length,0,x.a,true,[],[]⟩
def aa.sent(R:aa)(f:Int)(x:ax):aa:=if (R.follows f x).2=true then(R.follows f x).1.sent1 f x else(R.follows f x).1
def aa.giveLine(R:aa)(x:ax):ae:=if (bk R.line x.a).2=true/\(bk R.line x.a).1=x.u then(R.line.drop x.a).1 else⟨x.a,x.u,[]⟩
def aa.given1(R:aa)(f:Int)(x:ax):aa:=
 if x.a<=R.commit then R.post f ⟨4,0,R.commit,0,x.a,true,[],[]⟩
 else({ R with line:=R.giveLine x,commit:=x.a,applied:=x.a,state:=x.b,jumped:=true }:aa).post f ⟨4,0,x.a,0,x.a,true,[],[]⟩
def aa.given(R:aa)(f:Int)(x:ax):aa:=if (R.follows f x).2=true then(R.follows f x).1.given1 f x else(R.follows f x).1
def aa.got(R:aa)(f:Int)(x:ax):aa:=
 if R.role≠2\/x.t≠R.bt then R
 else if x.y=true/\x.a<=R.line.last then
  let R2:=({ R with mat:=R.mat.set f.toNat (max (R.mat.getD f.toNat 0) x.a),nxt:=R.nxt.set f.toNat (max (R.nxt.getD f.toNat 0) (x.a+1)) }:aa).look
  if R2.nxt.getD f.toNat 0<=R2.line.last then R2.send f else R2
 else if x.y=false/\x.o=R.nxt.getD f.toNat 0-1/\R.mat.getD f.toNat 0<x.o then
  ({ R with nxt:=R.nxt.set f.toNat (max (R.mat.getD f.toNat 0+1) (min (x.a+1) x.o)) }:aa).send f
 else R
def aa.stepUp(R:aa)(t:Int):aa:=if R.bt<t then { ({ R with bt:=t,bf:= -1 }:aa).noteBallot with role:=0,lead:= -1 } else R
def aa.heard(R:aa)(f:Int)(x:ax):aa:=if x.k=1 then R.asked f x else if x.k=2 then R.said f x else if x.k=3 then R.sent f x else if x.k=4 then R.got f x else if x.k=5 then R.given f x else R
def aa.handle(R:aa)(f:Int)(x:ax):aa:=if f<0\/R.n<=f\/f=R.me\/aO x=false then R else(R.stepUp x.t).heard f x
theorem kT{bt bf f t:Int}{a:Bool}(h:bJ bt bf f t a=true):t=bt:=by simp[bJ]at h;omega
theorem ip{bt bf f t:Int}{a:Bool}(h:bJ bt bf f t a=true):eV f=true:=by simp[bJ]at h;exact h.1.1.1
theorem gw(bt bf f t:Int)(an:Bool):fY bt bf f t an=bt:=by
 unfold fY;split
 ·rename_i h;exact kT h
 ·rfl
section
variable {R : aa}
theorem aa.Ok.out(h:R.Ok)(o:List dg):({ R with out:=o }:aa).Ok:=⟨h.n1,h.n7,h.me0,h.men,h.bt0,h.bt1,h.bf0,h.bf1,h.line,h.ap0,h.ap1,h.cm,h.tk0,h.tk1,h.v7,h.m7,h.x7,h.vs,h.mss,h.xs,h.role0,h.role2,h.rb,h.st⟩
theorem aa.Ok.nws(h:R.Ok)(o:List (List UInt8)):({ R with news:=o }:aa).Ok:=⟨h.n1,h.n7,h.me0,h.men,h.bt0,h.bt1,h.bf0,h.bf1,h.line,h.ap0,h.ap1,h.cm,h.tk0,h.tk1,h.v7,h.m7,h.x7,h.vs,h.mss,h.xs,h.role0,h.role2,h.rb,h.st⟩
theorem aa.Ok.tick0(h:R.Ok){k:Int}(h0:0<=k)(h1:k<=40):({ R with ticks:=k }:aa).Ok:=⟨h.n1,h.n7,h.me0,h.men,h.bt0,h.bt1,h.bf0,h.bf1,h.line,h.ap0,h.ap1,h.cm,h0,h1,h.v7,h.m7,h.x7,h.vs,h.mss,h.xs,h.role0,h.role2,h.rb,h.st⟩
theorem aa.Ok.ballot(h:R.Ok){t f:Int}(h0:R.bt<=t)(h1:t<=1099511627776)(f0: -1<=f)(f1:f<=6):({ R with bt:=t,bf:=f }:aa).Ok:=⟨h.n1,h.n7,h.me0,h.men,by have:=h.bt0;show 0<=t;omega,h1,f0,f1,h.line,h.ap0,h.ap1,h.cm,h.tk0,h.tk1,h.v7,h.m7,h.x7,h.vs,h.mss,h.xs,h.role0,h.role2,fun a=>by have:=h.rb a;show 1<=t;omega,h.st⟩
theorem aa.Ok.roled(h:R.Ok){r l:Int}(h0:0<=r)(h1:r<=2)(hb:r≠0->1<=R.bt):({ R with role:=r,lead:=l }:aa).Ok:=⟨h.n1,h.n7,h.me0,h.men,h.bt0,h.bt1,h.bf0,h.bf1,h.line,h.ap0,h.ap1,h.cm,h.tk0,h.tk1,h.v7,h.m7,h.x7,h.vs,h.mss,h.xs,h0,h1,hb,h.st⟩
theorem aa.Ok.voted(h:R.Ok){v:List Int}(a:v.length=7)(hv:∀x∈v,0<=x/\x<=1):({ R with votes:=v }:aa).Ok:=⟨h.n1,h.n7,h.me0,h.men,h.bt0,h.bt1,h.bf0,h.bf1,h.line,h.ap0,h.ap1,h.cm,h.tk0,h.tk1,a,h.m7,h.x7,hv,h.mss,h.xs,h.role0,h.role2,h.rb,h.st⟩
theorem aa.Ok.matched(h:R.Ok){m x:List Int}(a:m.length=7)(hx:x.length=7)(hms:∀y∈m,0<=y/\y<=1099511627776)(hxs:∀y∈x,0<=y/\y<=1099511627777):({ R with mat:=m,nxt:=x }:aa).Ok:=⟨h.n1,h.n7,h.me0,h.men,h.bt0,h.bt1,h.bf0,h.bf1,h.line,h.ap0,h.ap1,h.cm,h.tk0,h.tk1,h.v7,a,hx,h.vs,hms,hxs,h.role0,h.role2,h.rb,h.st⟩
theorem aa.Ok.commits(h:R.Ok){c:Int}(h0:R.commit<=c)(h1:c<=R.line.last):({ R with commit:=c }:aa).Ok:=⟨h.n1,h.n7,h.me0,h.men,h.bt0,h.bt1,h.bf0,h.bf1,h.line,h.ap0,by have:=h.ap1;show R.applied<=c;omega,h1,h.tk0,h.tk1,h.v7,h.m7,h.x7,h.vs,h.mss,h.xs,h.role0,h.role2,h.rb,h.st⟩
theorem aa.Ok.lined(h:R.Ok){x:ae}(a:x.Good)(hb:x.base=R.line.base)(hc:R.commit<=x.last):({ R with line:=x }:aa).Ok:=⟨h.n1,h.n7,h.me0,h.men,h.bt0,h.bt1,h.bf0,h.bf1,a,by have:=h.ap0;show x.base<=R.applied;omega,h.ap1,hc,h.tk0,h.tk1,h.v7,h.m7,h.x7,h.vs,h.mss,h.xs,h.role0,h.role2,h.rb,h.st⟩
theorem nf{me n:Int}(h1:1<=n)(h7:n<=7)(hm:0<=me)(hn:me<n):(aa.new me n).Ok:=⟨h1,h7,hm,hn,by simp[aa.new,aW,ae.last],by simp[aa.new,aW,ae.last],by simp[aa.new,aW,ae.last],by simp[aa.new,aW,ae.last],nk (b:=0) (t:=0) (by rfl),by simp[aa.new,aW,ae.last],by simp[aa.new,aW,ae.last],by simp[aa.new,aW,ae.last],by simp[aa.new,aW,ae.last],by simp[aa.new,aW,ae.last],rfl,rfl,rfl,by simp[aa.new,aW,ae.last],by simp[aa.new,aW,ae.last],by simp[aa.new,aW,ae.last],by simp[aa.new,aW,ae.last],by simp[aa.new,aW,ae.last],fun h=>absurd rfl h,by simp[aa.new,aW,ae.last]⟩
theorem gE(h:R.Ok)(who:Int)(x:ax):(R.post who x).Ok:=h.out _
theorem eO(h:R.Ok):R.noteBallot.Ok:=h.nws _
theorem gG(h:R.Ok)(a:Int):(R.noteItems a).Ok:=h.nws _
theorem pB(h:R.Ok):(R.others aa.send).Ok:=by obtain⟨o,a, -⟩:=eG (f:=aa.send) dj R;rw[a];exact h.out _
theorem wU{x:ae}(a:x.Good){i:Int}(h:(bk x i).1≠0):x.base<=i/\i<=x.last:=by
 unfold bk at h;split at h
 ·rename_i b;exact(a.tm_ge i).1 b
 ·exact absurd rfl h
theorem cF{l:List Int}{i:Nat}{v a b:Int}(h:∀y∈l,a<=y/\y<=b)(hv:a<=v/\v<=b):∀y∈l.set i v,a<=y/\y<=b:=by
 intro y c;rcases List.mem_or_eq_of_mem_set c with c | rfl
 ·exact h y c
 ·exact hv
theorem eL{l:List Int}{i:Nat}{a b:Int}(h:∀y∈l,a<=y/\y<=b)(hi:i<l.length):a<=l.getD i 0/\l.getD i 0<=b:=by rw[List.getD_eq_getElem?_getD,List.getElem?_eq_getElem hi];exact h _ (List.getElem_mem hi)
theorem bP{x:ae}(a:x.Good):0<=x.last/\x.last<=1099511627776:=by have:=a.b0;have:=a.n2;have b:x.last=x.base+(x.l.length:Int):=rfl;omega
theorem iF(h:R.Ok)(hb:1<=R.bt):R.look.Ok:=by
 obtain⟨m,c,he,a,e⟩:=ch R;have d:=bP h.line;rw[he];have b:({ R with mat:=m,nxt:=R.nxt }:aa).Ok:=h.matched (by rw[a];simp[h.m7]) h.x7 (by rw[a];exact cF h.mss d) h.xs;rcases e with rfl | ⟨g, -,f⟩
 ·exact b
 ·exact b.commits (c:=c) (Int.le_of_lt g) (wU h.line (by rw[f];omega)).2
theorem iw(x:ae)(it:ar):(x.add it=(x,0))\/((x.add it)=({ x with l:=x.l++ [it] },x.last+1)/\bj it=true/\cL x ((x.l.length:Int)+1)=true):=by
 unfold ae.add;split
 ·rename_i h;exact .inr ⟨rfl,h⟩
 ·exact .inl rfl
theorem pC(h:R.Ok)(it:ar):(R.add it).1.Ok:=by
 refine h.lined (x:=(R.line.add it).1) (h.line.add it) ?_ ?_
 ·rcases iw R.line it with e | ⟨e, -⟩<;>rw[e]
 ·have:=h.cm;rcases iw R.line it with e | ⟨e, -⟩<;>rw[e]
  ·exact this
  ·have a:R.line.last=R.line.base+(R.line.l.length:Int):=rfl;show R.commit<=R.line.base+((R.line.l++ [it]).length:Int)
   simp;omega
theorem ud{v a b:Int}(h:a<=v/\v<=b)(n:Nat):∀y∈List.replicate n v,a<=y/\y<=b:=fun y c=>by rw[List.eq_of_mem_replicate c];exact h
theorem ng(h:R.Ok)(hb:1<=R.bt):R.lead0.Ok:=by have a:=bP h.line;exact((h.roled (r:=2) (l:=R.me) (by omega) (by omega) (fun _=>hb)).tick0 (k:=0) (by omega) (by omega)).matched (m:=aW) (x:=List.replicate 7 (R.line.last+1)) rfl (by simp) (by decide) (ud ⟨by omega,by omega⟩ 7)
theorem kn(R:aa):∃l n,R.lead1={ R.lead0 with line:=l,news:=n }:=by
 unfold aa.lead1;simp only;split
 ·exact⟨_,_,rfl⟩
 ·exact⟨(R.lead0.line.add (R.bt,[])).1,R.lead0.news,rfl⟩
theorem vr(h:R.Ok)(hb:1<=R.bt):R.lead1.Ok:=by
 unfold aa.lead1;simp only;split
 ·exact gG (pC (ng h hb) _) _
 ·exact pC (ng h hb) _
theorem ul(h:R.Ok)(hb:1<=R.bt):R.goLead.Ok:=by refine pB (iF (vr h hb) ?_);obtain⟨l,n,e⟩:=kn R;rw[e];exact hb
theorem qH(h:R.Ok)(hb:1<=R.bt)(f:Int):(R.count f).Ok:=by
 have a:({ R with votes:=R.votes.set f.toNat 1 }:aa).Ok:=h.voted (by simp[h.v7]) (cF h.vs (by omega));unfold aa.count;simp only;split
 ·exact ul a hb
 ·exact a
theorem oQ(h:R.Ok)(hb:R.bt<1099511627776):R.stand0.Ok:=by have b:({ R with ticks:=0 }:aa).Ok:=h.tick0 (by omega) (by omega);have g:=h.bt0;have e:=h.me0;have d:=h.men;have c:=h.n7;have a:({ R with ticks:=0,bt:=R.bt+1,bf:=R.me }:aa).Ok:=b.ballot (t:=R.bt+1) (f:=R.me) (by show R.bt<=R.bt+1;omega) (by omega) (by omega) (by omega);exact((eO a).roled (r:=1) (l:= -1) (by omega) (by omega) (fun _=>by show 1<=R.bt+1;omega)).voted (v:=aW) rfl (by decide)
theorem fQ(f:aa->Int->aa)(hf:∀R i,∃y,f R i={ R with out:=R.out++ [y] })(R:aa):∃o,R.others f={ R with out:=o }:=by obtain⟨o,h, -⟩:=eG hf R;exact⟨o,h⟩
theorem qF(h:R.Ok):R.stand.Ok:=by
 unfold aa.stand;split
 ·exact h.tick0 (by omega) (by omega)
 ·rename_i c
  have b:=oQ h (by omega);have d:=h.bt0;obtain⟨o,e⟩:=fQ (fun S a=>S.post a ⟨1,0,R.line.last,(bk R.line R.line.last).1,0,false,[],[]⟩) (fun S i=>⟨_,rfl⟩) R.stand0;rw[e];exact qH (b.out o) (by show 1<=R.bt+1;omega) _
theorem td(h:R.Ok):R.tick.Ok:=by
 unfold aa.tick;simp only;have g:=h.tk0;have f:=h.tk1;have l:=h.me0;have j:=h.men;have i:=h.n7;split
 ·exact pB (h.tick0 (k:=0) (by omega) (by omega))
 ·split
  ·by_cases a:R.ticks<40
   ·exact qF (h.tick0 (k:=R.ticks+1) (by omega) (by omega))
   ·
    have e:({ R with ticks:=R.ticks+1 }:aa).stand=({ R with ticks:=R.ticks }:aa).stand:=by unfold aa.stand;simp only;rfl
    rw[e];exact qF (h.tick0 (k:=R.ticks) g f)
  ·rename_i d c
   refine h.tick0 (k:=R.ticks+1) (by omega) ?_;by_cases b:R.role=2
   ·have:¬(4<=R.ticks+1):=fun a=>d ⟨b,a⟩
    omega
   ·have:¬(20+2*R.me<=R.ticks+1):=fun a=>c ⟨b,a⟩
    omega
theorem nh(h:R.Ok)(s:List UInt8):(R.compact s).1.Ok:=by
 unfold aa.compact;split
 ·exact h
 ·rename_i g
  have c:(R.line.drop R.applied).2=true/\s.length<=65536:=⟨by cases hh:(R.line.drop R.applied).2<;>simp_all,by omega⟩
  have d:=h.line.drop R.applied;have a:(R.line.drop R.applied).1=⟨R.applied,R.line.tm R.applied,R.line.l.drop (R.applied-R.line.base).toNat⟩:=by
   unfold ae.drop;split
   ·rename_i e;have b:=c.1;unfold ae.drop at b;rw[if_pos e]at b;cases b
   ·rfl
  have k:=h.ap0;have f:=h.ap1;have j:=h.cm;have i:R.line.last=R.line.base+(R.line.l.length:Int):=rfl;refine⟨h.n1,h.n7,h.me0,h.men,h.bt0,h.bt1,h.bf0,h.bf1,d,?_,f,?_,h.tk0,h.tk1,h.v7,h.m7,h.x7,h.vs,h.mss,h.xs,h.role0,h.role2,h.rb,c.2⟩
  ·show(R.line.drop R.applied).1.base<=R.applied;rw[a];exact Int.le_refl _
  ·show R.commit<=(R.line.drop R.applied).1.last;rw[a];show R.commit<=R.applied+((R.line.l.drop (R.applied-R.line.base).toNat).length:Int)
   simp;omega
theorem x9(h:R.Ok):R.jump.1.Ok:=by
 unfold aa.jump;split
 ·exact⟨h.n1,h.n7,h.me0,h.men,h.bt0,h.bt1,h.bf0,h.bf1,h.line,h.ap0,h.ap1,h.cm,h.tk0,h.tk1,h.v7,h.m7,h.x7,h.vs,h.mss,h.xs,h.role0,h.role2,h.rb,h.st⟩
 ·exact h
theorem pH{f:Int}(h:eV f=true):0<=f/\f<=6:=by simp[eV]at h;omega
theorem dw(h:R.Ok)(f:Int)(x:ax):(R.follows f x).1.Ok:=by
 unfold aa.follows;split
 ·exact gE h _ _
 ·split
  ·exact h
  ·exact(h.roled (r:=0) (l:=f) (by omega) (by omega) (fun h=>absurd rfl h)).tick0 (k:=0) (by omega) (by omega)
theorem gv{x:ae}(h:x.Good)(prev term:Int)(its:List ar):
  ((x.join prev term its)=(x,0,false))\/
  ((x.join prev term its)=(x,0,true)/\0<=prev/\prev<=x.last/\prev+its.length<=x.last/\(x.base<=prev->x.tm prev=term)/\∀m,m<its.length->(prev+1+m<=x.base\/x.tm (prev+1+m)=(its.getD m (0,[])).1))\/
  (∃(j:Int) (k:Nat),(x.join prev term its)=({ x with l:=x.l.take (j-x.base-1).toNat++its.drop k },j,true)/\0<=prev/\prev<=x.last/\j=prev+1+k/\k<its.length/\x.base<j/\j<=x.last+1/\(x.base<=prev->x.tm prev=term)/\
   x.tm j≠(its.getD k (0,[])).1/\(∀m,m<k->(prev+1+m<=x.base\/x.tm (prev+1+m)=(its.getD m (0,[])).1))/\(∀it∈its,bj it=true)/\({ x with l:=x.l.take (j-x.base-1).toNat++its.drop k }:ae).last=prev+its.length):=by
 unfold ae.join;split
 ·exact .inl rfl
 ·rename_i D
  have t:∀it∈its,bj it=true:=fun it p=>by
   cases hh:bj it with
   | true=>rfl
   | false=>exact absurd (.inr (.inr (List.any_eq_true.2 ⟨it,p,by simp[hh]⟩))) D
  have c:∀(m:Nat) (i:Int),m<its.length->x.tm i=(its.getD m (0,[])).1->i<=x.last:=fun m i b he=>by have e:=((br _).1 (t _ (List.getElem_mem b))).1;rw[ky b]at he;exact((h.tm_ge i).1 (by rw[he];exact e)).2
  have A:x.base<=x.last:=by show x.base<=x.base+(x.l.length:Int);omega
  split
  ·exact .inl rfl
  ·rename_i C
   have a:x.base<=prev->x.tm prev=term:=fun B=>by
    by_cases e:x.tm prev=term
    ·exact e
    ·exact absurd ⟨B,e⟩ C
   split
   ·rename_i s
    have v:=ae.diff_none s;refine .inr (.inl ⟨rfl,by omega,by omega,?_,a,v⟩);by_cases w:its.length=0
    ·omega
    ·have d:=v (its.length-1) (by omega);rcases d with d | d
     ·omega
     ·have:=c _ _ (by omega) d;omega
   ·rename_i j r s
    obtain⟨k,y,z,g,q,n,b⟩:=ae.diff_some s;split
    ·rename_i d
     subst g;have o:j<=x.last+1:=by
      by_cases w:k=0
      ·subst w;omega
      ·have f:=b (k-1) (by omega);rcases f with f | f
       ·omega
       ·have:=c (k-1) _ (by omega) f;omega
     refine .inr (.inr ⟨j,k,rfl,by omega,by omega,z,y,q,o,a,n,b,t,?_⟩);show x.base+((x.l.take (j-x.base-1).toNat++its.drop k).length:Int)=_;have F:x.last=x.base+(x.l.length:Int):=rfl
     simp
     omega
    ·exact .inl rfl
theorem te(h:R.Ok)(f:Int)(x:ax):(R.sent f x).Ok:=by
 unfold aa.sent;have g:=dw h f x;generalize R.follows f x=F at g;obtain⟨S,b⟩:=F;have g:S.Ok:=g;show(if b=true then S.sent1 f x else S).Ok;split
 ·unfold aa.sent1;simp only;have n:=g.line.join x.a x.u x.its;have r:=g.cm;rcases gv g.line x.a x.u x.its with e | ⟨e,m,i,d, -⟩ | ⟨j,k,e,m,i,B,A,s,p, -, -, -, -,d⟩
  ·rw[e];simp only;rw[if_neg (by simp)];simp only[if_true];exact gE g _ _
  ·rw[e];simp only;rw[if_neg (by simp),if_neg (by simp),if_neg (by simp)];exact gE (g.commits (c:=max S.commit (min x.o (x.a+x.its.length))) (by omega) (by omega)) _ _
  ·rw[e]at n ⊢;simp only at n ⊢;have t:=g.line.b0;split
   ·exact g
   ·rename_i v
    rw[if_neg (by simp),if_pos (by omega)];have q:S.commit<j:=by
     by_cases w:j<=S.commit
     ·exact absurd ⟨trivial,by omega,w⟩ v
     ·omega
    have y:=g.lined n rfl (by rw[d];omega);have z:=(gG y j).commits (c:=max S.commit (min x.o (x.a+x.its.length))) (by show S.commit<=_;omega) (by show _<=({ S.line with l:=S.line.l.take (j-S.line.base-1).toNat++x.its.drop k }:ae).last;rw[d];omega)
    exact gE z _ _
 ·exact g
theorem aH{x:ax}(h:aO x=true):(1<=x.k/\x.k<=5)/\(0<=x.t/\x.t<=1099511627776)/\(0<=x.a/\x.a<=1099511627776)/\(0<=x.u/\x.u<=1099511627776)/\(0<=x.o/\x.o<=1099511627776)/\x.its.length<=16/\x.b.length<=65536/\(∀it∈x.its,bj it=true)/\x=dI x:=by
 simp only[aO,rI,Bool.and_eq_true,decide_eq_true_eq,Bool.not_eq_true',kJ]at h;obtain⟨⟨p,n,m⟩,⟨⟨l,j⟩,i⟩,⟨g,f⟩,e,d⟩:=h;refine⟨⟨p,n⟩,m,l,j,i,g,f,fun it c=> ?_,d⟩;cases hh:bj it with
 | true=>rfl
 | false=>rw[List.any_eq_false]at e;exact absurd (by simp[hh]) (e it c)
theorem ov(h:R.Ok){x:ax}(d:aO x=true)(hc:R.commit<x.a):(R.giveLine x).Good/\(R.giveLine x).base=x.a/\x.a<=(R.giveLine x).last:=by
 obtain⟨-, -,g,f, -⟩:=aH d;unfold aa.giveLine;split
 ·rename_i e
  have c:¬R.line.tm x.a<0:=by
   have b:=e.1;unfold bk at b;split at b
   ·omega
   ·cases b
  refine⟨h.line.drop x.a,?_,?_⟩
  ·unfold ae.drop;rw[if_neg c]
  ·unfold ae.drop;rw[if_neg c];show x.a<=x.a+_;omega
 ·exact⟨nk (by rw[iJ];omega),rfl,by show x.a<=x.a+_;omega⟩
theorem qG(h:R.Ok)(f:Int){x:ax}(d:aO x=true):(R.given f x).Ok:=by
 unfold aa.given;have c:=dw h f x;generalize R.follows f x=F at c;obtain⟨S,b⟩:=F;have c:S.Ok:=c;show(if b=true then S.given1 f x else S).Ok;split
 ·unfold aa.given1;split
  ·exact gE c _ _
  ·rename_i l
   obtain⟨i,m,g⟩:=ov c d (by omega);obtain⟨-, -,k,j, -, -,e, -⟩:=aH d;refine gE (R:={ S with line:=S.giveLine x,commit:=x.a,applied:=x.a,state:=x.b,jumped:=true }) ?_ _ _;exact⟨c.n1,c.n7,c.me0,c.men,c.bt0,c.bt1,c.bf0,c.bf1,i,by show(S.giveLine x).base<=x.a;omega,by show x.a<=x.a;omega,g,c.tk0,c.tk1,c.v7,c.m7,c.x7,c.vs,c.mss,c.xs,c.role0,c.role2,c.rb,e⟩
 ·exact c
theorem gp(h:R.Ok){t:Int}(h1:t<=1099511627776):(R.stepUp t).Ok:=by
 unfold aa.stepUp;split
 ·exact(eO (h.ballot (t:=t) (f:= -1) (by omega) h1 (by omega) (by omega))).roled (r:=0) (l:= -1) (by omega) (by omega) (fun h=>absurd rfl h)
 ·exact h
theorem oF(R:aa)(t:Int):(R.stepUp t).n=R.n/\(R.stepUp t).me=R.me:=by unfold aa.stepUp;split<;>exact⟨rfl,rfl⟩
end
end Go.Proofs.YtogcnfhmcpkdcaaGreat
