/-
The plain form of a letter: what is written is read as it was. No walk.
-/
import Derived.Test.YtogcnfhmcpkdcaaGreatLetLaw
import Derived.Test.YtogcnfhmcpkdcaaGreatReadM
import Derived.Test.YtogcnfhmcpkdcaaGreatPenZ
namespace Go.Proofs.YtogcnfhmcpkdcaaGreat
open Go.RowKit
set_option linter.unusedVariables false
set_option linter.unusedSimpArgs false
def aX:List Nat->List UInt8
 | []=> []
 | n::r=>aC n++aX r
theorem py(l:List Nat)(n:Nat):aX (l++ [n])=aX l++aC n:=by
 induction l with
 | nil=>simp[aX]
 | cons x r ih=>simp[aX,ih,List.append_assoc]
theorem i7:∀(l:List Nat),(∀n∈l,n<=1099511627776)->(aX l).length<=l.length*9
 | [],_=>by simp[aX]
 | n::r,h=>by have c:=i7 r (fun m a=>h m (by simp[a]));have b:=ck (show n<18446744073709551616 by have:=h n (by simp);omega);simp only[aX,List.length_append,List.length_cons];omega
def yn(y:Bool):Nat:=if y then 1 else 0
def cG(x:ax):List UInt8:=
 aX [x.k.toNat,x.t.toNat]++
 (if x.k=1 then aX [x.a.toNat,x.u.toNat]
 else if x.k=2 then aC (yn x.y)
 else if x.k=3 then aX [x.a.toNat,x.u.toNat,x.o.toNat,x.its.length]++aw x.its
 else if x.k=4 then aC (yn x.y)++aX [x.a.toNat,x.o.toNat]
 else aX [x.a.toNat,x.u.toNat]++bN x.b)
theorem xl(n:Int):rI n=true↔0<=n/\n<=1099511627776:=by simp[rI]
theorem mN{x:ax}(h:aO x=true):∃K T A U O:Nat,x=⟨K,T,A,U,O,x.y,x.its,x.b⟩/\1<=K/\K<=5/\T<=1099511627776/\A<=1099511627776/\U<=1099511627776/\O<=1099511627776/\x.its.length<=16/\x.b.length<=65536/\(∀it∈x.its,bj it=true)/\x=dI x:=by simp only[aO,Bool.and_eq_true,decide_eq_true_eq,xl,kJ,Bool.not_eq_true',List.any_eq_false,Bool.not_eq_true]at h;obtain⟨⟨p,n,m⟩,⟨⟨l,j⟩,i⟩,⟨g,f⟩,e,d⟩:=h;refine⟨x.k.toNat,x.t.toNat,x.a.toNat,x.u.toNat,x.o.toNat,?_,by omega,by omega,by omega,by omega,by omega,by omega,g,f,fun it c=>by simpa using e it c,d⟩;rw[show((x.k.toNat:Nat):Int)=x.k by omega,show((x.t.toNat:Nat):Int)=x.t by omega,show((x.a.toNat:Nat):Int)=x.a by omega,show((x.u.toNat:Nat):Int)=x.u by omega,show((x.o.toNat:Nat):Int)=x.o by omega]
theorem kb:∀(l:List ar),(∀it∈l,bj it=true)->(aw l).length<=l.length*8300
 | [],_=>by simp[aw]
 | it::r,h=>by have e:=kb r (fun j a=>h j (by simp[a]));have d:=(br it).1 (h it (by simp));have c:=ck (show it.1.toNat<18446744073709551616 by omega);have b:=ck (show it.2.length<18446744073709551616 by omega);simp only[aw,bN,List.length_append,List.length_cons];omega
def fd(l:List UInt8):bO ax:=
 (ak 5 l).bind fun k j=>if k=0 then .err 25 else(ak 1099511627776 j).bind fun t f=>
 if k=1 then(ak 1099511627776 f).bind fun a c=>(ak 1099511627776 c).bind fun u d=> .ok ⟨1,t,a,u,0,false,[],[]⟩ d
 else if k=2 then(ak 1 f).bind fun y c=> .ok ⟨2,t,0,0,0,y==1,[],[]⟩ c
 else if k=3 then(ak 1099511627776 f).bind fun a c=>(ak 1099511627776 c).bind fun u d=>(ak 1099511627776 d).bind fun o e=>(ak 16 e).bind fun n i=>(aJ n i).bind fun g h=> .ok ⟨3,t,a,u,o,false,g,[]⟩ h
 else if k=4 then(ak 1 f).bind fun y c=>(ak 1099511627776 c).bind fun a d=>(ak 1099511627776 d).bind fun o e=> .ok ⟨4,t,a,0,o,y==1,[],[]⟩ e
 else(ak 1099511627776 f).bind fun a c=>(ak 1099511627776 c).bind fun u d=>(aT 65536 d).bind fun b e=> .ok ⟨5,t,a,u,0,false,[],b⟩ e
theorem v8(l:List UInt8):(fd l).sane:=by
 unfold fd;refine bO.sane_bind (bL _ _) fun k b=> ?_
 split
 ·intro x h;cases h;decide
 refine bO.sane_bind (bL _ _) fun t a=> ?_
 split
 ·exact bO.sane_bind (bL _ _) fun _ _=>bO.sane_bind (bL _ _) fun _ _=>dQ _ _
 split
 ·exact bO.sane_bind (bL _ _) fun _ _=>dQ _ _
 split
 ·exact bO.sane_bind (bL _ _) fun _ _=>bO.sane_bind (bL _ _) fun _ _=>bO.sane_bind (bL _ _) fun _ _=>bO.sane_bind (bL _ _) fun _ _=>bO.sane_bind (ju _ _) fun _ _=>dQ _ _
 split
 ·exact bO.sane_bind (bL _ _) fun _ _=>bO.sane_bind (bL _ _) fun _ _=>bO.sane_bind (bL _ _) fun _ _=>dQ _ _
 ·exact bO.sane_bind (bL _ _) fun _ _=>bO.sane_bind (bL _ _) fun _ _=>bO.sane_bind (gj _ _) fun _ _=>dQ _ _
theorem jH{x:ax}(h:aO x=true)(r:List UInt8):fd (cG x++r)= .ok x r:=by
 obtain⟨K,T,A,U,O,j,n,m,hT,z,v,w,l,i,e,d⟩:=mN h;obtain⟨k,t,a,u,o,y,c,b⟩:=x;injection j with e1 e2 e3 e4 e5;subst e1 e2 e3 e4 e5
 change c.length<=16 at l
 change b.length<=65536 at i
 change ∀it∈c,bj it=true at e
 have q:ak 1 (aC (yn y)++r)= .ok (yn y) r:=bo _ _ _ (by cases y<;>simp[yn]) (by cases y<;>simp[yn]);have g:∀s,ak 1 (aC (yn y)++s)= .ok (yn y) s:=fun s=>bo _ _ _ (by cases y<;>simp[yn]) (by cases y<;>simp[yn])
 have f:(yn y==1)=y:=by cases y<;>rfl
 have p:K=1\/K=2\/K=3\/K=4\/K=5:=by omega
 rcases p with rfl | rfl | rfl | rfl | rfl
 all_goals
  simp[dI]at d;simp only[fd,cG,aX,List.append_assoc,List.nil_append,List.append_nil]
  simp
  rw[bo _ _ _ (by omega) (by omega),bO.bind_ok]
  simp
  rw[bo _ _ _ (by omega) (by omega),bO.bind_ok]
  try rw[g,bO.bind_ok,f]
  try rw[bo _ _ _ (by omega) (by omega),bO.bind_ok]
  try rw[bo _ _ _ (by omega) (by omega),bO.bind_ok]
  try rw[bo _ _ _ (by omega) (by omega),bO.bind_ok]
  try rw[bo _ _ _ (by omega) (by omega),bO.bind_ok]
  try rw[kx _ e,bO.bind_ok]
  try rw[eX _ _ _ (by omega) i,bO.bind_ok]
  simp[d]
end Go.Proofs.YtogcnfhmcpkdcaaGreat
