/-
The plain law of lines: items, terms, what is added, joined, dropped, taken. No program in sight.
-/
import Derived.Test.YtogcnfhmcpkdcaaGreatNumM
namespace Go.Proofs.YtogcnfhmcpkdcaaGreat
set_option linter.unusedVariables false
set_option linter.unusedSimpArgs false
abbrev ar:=Int×List UInt8
def bj(it:ar):Bool:=decide (0<=it.1) && (decide (it.1<=1099511627776) && decide (it.2.length<=8192))
theorem br(it:ar):bj it=true↔0<=it.1/\it.1<=1099511627776/\it.2.length<=8192:=by simp[bj]
structure ae where
 base:Int
 term:Int
 l:List ar
def ae.last(x:ae):Int:=x.base+(x.l.length:Int)
def ae.tm(x:ae)(i:Int):Int:=if i=x.base then x.term else if i<x.base\/x.last<i then -1 else(x.l.getD (i-x.base-1).toNat (0,[])).1
structure ae.Good (x:ae):Prop where
 b0:0<=x.base
 b1:x.base<=1099511627776
 t0:0<=x.term
 t1:x.term<=1099511627776
 n1:x.l.length<=4096
 n2:x.base+(x.l.length:Int)<=1099511627776
 its:∀it∈x.l,bj it=true
def cL(x:ae)(n:Int):Bool:=decide (n<=4096) && decide (n<=1099511627776-x.base)
theorem ky{α:Type}{l:List α}{i:Nat}{d:α}(h:i<l.length):l.getD i d=l[i]:=by simp[List.getD,List.getElem?_eq_getElem h]
theorem ae.Good.tm_ge{x:ae}(h:x.Good)(i:Int):0<=x.tm i↔x.base<=i/\i<=x.last:=by
 unfold ae.tm;have f:x.last=x.base+(x.l.length:Int):=rfl;by_cases c:i=x.base
 ·rw[if_pos c];have:=h.t0;constructor
  ·intro _;omega
  ·intro _;exact this
 ·rw[if_neg c];by_cases b:i<x.base\/x.last<i
  ·rw[if_pos b];constructor
   ·intro e;omega
   ·intro e;omega
  ·rw[if_neg b];have a:(i-x.base-1).toNat<x.l.length:=by omega
   have d:=h.its _ (List.getElem_mem a);have:=((br _).1 d).1;constructor
   ·intro _;omega
   ·intro _;rw[ky a];exact this
theorem ae.Good.tm_le{x:ae}(h:x.Good)(i:Int):x.tm i<=1099511627776:=by
 unfold ae.tm;by_cases c:i=x.base
 ·rw[if_pos c];exact h.t1
 ·rw[if_neg c];by_cases b:i<x.base\/x.last<i
  ·rw[if_pos b];omega
  ·rw[if_neg b];have e:x.last=x.base+(x.l.length:Int):=rfl;have a:(i-x.base-1).toNat<x.l.length:=by omega
   have d:=h.its _ (List.getElem_mem a);have:=((br _).1 d).2.1;rw[ky a];exact this
def ae.add(x:ae)(it:ar):ae×Int:=if bj it=true/\cL x ((x.l.length:Int)+1)=true then({ x with l:=x.l++ [it] },x.last+1) else(x,0)
theorem ae.Good.add{x:ae}(h:x.Good)(it:ar):(x.add it).1.Good:=by
 unfold ae.add;split
 ·rename_i b
  obtain⟨d,c⟩:=b;simp[cL]at c;refine⟨h.b0,h.b1,h.t0,h.t1,by simp;omega,by simp;omega,fun y a=> ?_⟩;simp at a;rcases a with a | rfl
  ·exact h.its y a
  ·exact d
 ·exact h
def ae.diff(x:ae)(i:Int):List ar->Option (Int×List ar)
 | []=>none
 | it::r=>if i<=x.base\/x.tm i=it.1 then x.diff (i+1) r else some (i,it::r)
def ae.join(x:ae)(prev term:Int)(its:List ar):ae×Int×Bool:=
 if prev<0\/x.last<prev\/(its.any fun it=> !bj it)=true then(x,0,false)
 else if x.base<=prev/\x.tm prev≠term then(x,0,false)
 else match x.diff (prev+1) its with
  | none=>(x,0,true)
  | some (i,r)=>if cL x (i-x.base-1+r.length)=true then({ x with l:=x.l.take (i-x.base-1).toNat++r },i,true) else(x,0,false)
theorem ae.diff_some{x:ae}:∀ {its:List ar} {i j:Int} {r:List ar},x.diff i its=some (j,r)->∃k:Nat,k<its.length/\j=i+k/\r=its.drop k/\x.base<j/\x.tm j≠(its.getD k (0,[])).1/\∀m,m<k->(i+m<=x.base\/x.tm (i+m)=(its.getD m (0,[])).1)
 | [],i,j,r,h=>by simp[ae.diff]at h
 | it::rest,i,j,r,h=>by
  simp only[ae.diff]at h;by_cases a:i<=x.base\/x.tm i=it.1
  ·rw[if_pos a]at h;obtain⟨k,c,b,l,g,f,e⟩:=ae.diff_some h;refine⟨k+1,by simp;omega,by omega,by simpa using l,g,by simpa using f,fun m d=> ?_⟩;cases m with
   | zero=>simpa using a
   | succ m=>have:=e m (by omega);rw[show i+1+(m:Int)=i+((m+1:Nat):Int) by omega]at this;simpa using this
  ·rw[if_neg a]at h;injection h with h;injection h with c b;subst c b;exact⟨0,by simp,by omega,rfl,by omega,by simp;omega,fun m d=>by omega⟩
theorem ae.diff_none{x:ae}:∀ {its:List ar} {i:Int},x.diff i its=none->∀m,m<its.length->(i+m<=x.base\/x.tm (i+m)=(its.getD m (0,[])).1)
 | [],i,h,m,hm=>by simp at hm
 | it::rest,i,h,m,hm=>by
  simp only[ae.diff]at h;by_cases a:i<=x.base\/x.tm i=it.1
  ·rw[if_pos a]at h;cases m with
   | zero=>simpa using a
   | succ m=>have:=ae.diff_none h m (by simpa using hm);rw[show i+1+(m:Int)=i+((m+1:Nat):Int) by omega]at this;simpa using this
  ·rw[if_neg a]at h;cases h
theorem ae.diff_step{x:ae}{i:Int}{its:List ar}(a:0<its.length)(h:i<=x.base\/x.tm i=(its.getD 0 (0,[])).1):x.diff i its=x.diff (i+1) (its.drop 1):=by
 cases its with
 | nil=>simp at a
 | cons it r=>simp only[ae.diff];rw[if_pos (by simpa using h)];rfl
theorem ae.diff_stop{x:ae}{i:Int}{its:List ar}(a:0<its.length)(h:¬(i<=x.base\/x.tm i=(its.getD 0 (0,[])).1)):x.diff i its=some (i,its):=by
 cases its with
 | nil=>simp at a
 | cons it r=>simp only[ae.diff];rw[if_neg (by simpa using h)]
theorem ae.Good.join{x:ae}(h:x.Good)(prev term:Int)(its:List ar):(x.join prev term its).1.Good:=by
 unfold ae.join;split
 ·exact h
 split
 ·exact h
 rename_i e n
 cases hd:x.diff (prev+1) its with
 | none=>exact h
 | some p=>
  obtain⟨j,r⟩:=p;simp only;split
  ·rename_i c
   simp[cL]at c;obtain⟨k,m,i,d,g,_,_⟩:=ae.diff_some hd;have f:(x.l.take (j-x.base-1).toNat).length<=(j-x.base-1).toNat:=List.length_take_le _ _;refine⟨h.b0,h.b1,h.t0,h.t1,by simp only[List.length_append];omega,by simp only[List.length_append];omega,fun y a=> ?_⟩;simp only[List.mem_append]at a;rcases a with a | a
   ·exact h.its y (List.mem_of_mem_take a)
   ·rw[d]at a;have b:=List.mem_of_mem_drop a;cases hr:bj y with
    | true=>rfl
    | false=>exact absurd (.inr (.inr (List.any_eq_true.2 ⟨y,b,by simp[hr]⟩))) e
  ·exact h
def ae.drop(x:ae)(i:Int):ae×Bool:=if x.tm i<0 then(x,false) else(⟨i,x.tm i,x.l.drop (i-x.base).toNat⟩,true)
theorem ae.Good.drop{x:ae}(h:x.Good)(i:Int):(x.drop i).1.Good:=by
 unfold ae.drop;split
 ·exact h
 ·rename_i d
  have c:=(h.tm_ge i).1 (by omega);have b:x.last=x.base+(x.l.length:Int):=rfl;have:=h.b0;have:=h.b1;have:=h.n1;have:=h.n2;refine⟨by simp only;omega,by simp only;omega,by simp only;omega,h.tm_le i,by simp;omega,by simp;omega,fun y a=>h.its y (List.mem_of_mem_drop a)⟩
def ae.from_(x:ae)(i most:Int):List ar:=if i<=x.base\/x.last<i\/most<1 then[] else(x.l.drop (i-x.base-1).toNat).take most.toNat
def aw:List ar->List UInt8
 | []=> []
 | it::r=>aC it.1.toNat++bN it.2++aw r
def ae.put(x:ae):List UInt8:=aC x.base.toNat++aC x.term.toNat++aC x.l.length++aw x.l
def aJ:Nat->List UInt8->bO (List ar)
 | 0,r=> .ok [] r
 | n+1,r=>(ak 1099511627776 r).bind fun t d=>(aT 8192 d).bind fun b c=>(aJ n c).bind fun l a=> .ok ((↑t,b)::l) a
def cx(r:List UInt8):bO ae:=(ak 1099511627776 r).bind fun b e=>(ak 1099511627776 e).bind fun t d=>(ak 4096 d).bind fun n c=>(aJ n c).bind fun l a=> .ok ⟨b,t,l⟩ a
theorem ju:∀(n:Nat) (r:List UInt8),(aJ n r).sane
 | 0,r=>dQ _ _
 | n+1,r=>bO.sane_bind (bL _ _) fun _ _=>bO.sane_bind (gj _ _) fun _ _=>bO.sane_bind (ju n _) fun _ _=>dQ _ _
theorem oH(r:List UInt8):(cx r).sane:=bO.sane_bind (bL _ _) fun _ _=>bO.sane_bind (bL _ _) fun _ _=>bO.sane_bind (bL _ _) fun _ _=>bO.sane_bind (ju _ _) fun _ _=>dQ _ _
theorem kx(l:List ar)(h:∀it∈l,bj it=true)(r:List UInt8):aJ l.length (aw l++r)= .ok l r:=by
 induction l with
 | nil=>rfl
 | cons it l ih=>
  obtain⟨d,c,b⟩:=(br it).1 (h it (by simp));have e:=ih (fun y a=>h y (by simp[a]));simp only[List.length_cons,aJ,aw,List.append_assoc];rw[bo _ _ _ (by omega) (by omega),bO.bind_ok,eX _ _ _ (by omega) (by omega),bO.bind_ok,e,bO.bind_ok]
  congr 2
  exact Prod.ext (by simp;omega) rfl
theorem lG:∀ {n:Nat} {r rest:List UInt8} {l:List ar},aJ n r= .ok l rest->l.length=n/\r=aw l++rest/\∀it∈l,bj it=true
 | 0,r,rest,l,h=>by simp only[aJ]at h;injection h with h1 h2;subst h1 h2;exact⟨rfl,rfl,by simp⟩
 | n+1,r,rest,l,h=>by
  simp only[aJ]at h;cases h1:ak 1099511627776 r with
  | err x=>rw[h1]at h;cases h
  | ok t r1=>
  rw[h1]at h;simp only[bO.bind_ok]at h;cases h2:aT 8192 r1 with
  | err x=>rw[h2]at h;cases h
  | ok b r2=>
  rw[h2]at h;simp only[bO.bind_ok]at h;cases h3:aJ n r2 with
  | err x=>rw[h3]at h;cases h
  | ok l' r3=>
  rw[h3]at h;simp only[bO.bind_ok]at h;injection h with h4 h5;subst h4 h5;obtain⟨g,f,e⟩:=lG h3;obtain⟨d,c⟩:=fD h2;have i:=az h1;refine⟨by simp[g],?_,fun it a=> ?_⟩
  ·rw[kw h1,d,f];simp[aw]
  ·simp at a;rcases a with rfl | a
   ·exact(br _).2 ⟨by simp,by simp;omega,by simpa using c⟩
   ·exact e it a
theorem rm{x:ae}(h:x.Good)(r:List UInt8):cx (x.put++r)= .ok x r:=by
 have c:=h.b0;have i:=h.b1;have a:=h.t0;have g:=h.t1;have f:=h.n1;simp only[cx,ae.put,List.append_assoc];rw[bo _ _ _ (by omega) (by omega),bO.bind_ok,bo _ _ _ (by omega) (by omega),bO.bind_ok,bo _ _ _ (by omega) (by omega),bO.bind_ok,kx _ h.its,bO.bind_ok];obtain⟨b,t,l⟩:=x;simp only at c a;have e:((b.toNat:Nat):Int)=b:=by omega
 have d:((t.toNat:Nat):Int)=t:=by omega
 rw[e,d]
theorem jG{r rest:List UInt8}{x:ae}(h:cx r= .ok x rest):r=x.put++rest/\0<=x.base/\x.base<=1099511627776/\0<=x.term/\x.term<=1099511627776/\x.l.length<=4096/\∀it∈x.l,bj it=true:=by
 unfold cx at h;cases h1:ak 1099511627776 r with
 | err x=>rw[h1]at h;cases h
 | ok b r1=>
 rw[h1]at h;simp only[bO.bind_ok]at h;cases h2:ak 1099511627776 r1 with
 | err x=>rw[h2]at h;cases h
 | ok t r2=>
 rw[h2]at h;simp only[bO.bind_ok]at h;cases h3:ak 4096 r2 with
 | err x=>rw[h3]at h;cases h
 | ok n r3=>
 rw[h3]at h;simp only[bO.bind_ok]at h;cases h4:aJ n r3 with
 | err x=>rw[h4]at h;cases h
 | ok l r4=>
 rw[h4]at h;simp only[bO.bind_ok]at h;injection h with h5 h6;subst h5 h6;obtain⟨a,d,c⟩:=lG h4;have g:=az h1;have f:=az h2;have e:=az h3;refine⟨?_,by simp,by simp;omega,by simp,by simp;omega,by simp[a];omega,c⟩;rw[kw h1,kw h2,kw h3,d];simp[ae.put,a]
end Go.Proofs.YtogcnfhmcpkdcaaGreat
