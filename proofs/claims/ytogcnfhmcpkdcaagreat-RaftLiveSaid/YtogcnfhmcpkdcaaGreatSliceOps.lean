/-
Slice expressions of a slice that reads as cells: what comes out reads as the part. No program in sight.
-/
import Derived.Test.YtogcnfhmcpkdcaaGreatSlMem
import Derived.Laws.Slices
namespace Go.Proofs.YtogcnfhmcpkdcaaGreat
open Go.RowKit
set_option linter.unusedVariables false
theorem SlAt.from_{w:World}{B d:Nat}{a:Option Addr}{n c:Nat}{xs:List Value}(h:SlAt w B d a n c xs){k:Nat}(q:k<=n):
  SlAt w B d (if c=k then a else a.map (·.add (k*d))) (n-k) (c-k) (xs.drop (k*d)):=by
 have s:=h.hle;have r:=h.hmax;refine⟨by rw[List.length_drop,h.hlen,Nat.sub_mul],by omega,by omega,fun e=> ?_,fun j=> ?_⟩
 ·by_cases g:c=k
  ·omega
  ·rw[if_neg g]at e;have:=h.hnil (by simpa using e);omega
 ·have f:k*d<xs.length:=by simp at j;omega
  have l:k<n:=by rw[h.hlen]at f;exact Nat.lt_of_mul_lt_mul_right f
  obtain⟨b,o,e,p,g⟩:=h.hat (by omega);rw[if_neg (by omega),e];refine⟨b,o+k*d,by simp[Addr.add_lit],p,fun i m=> ?_⟩;rw[Nat.add_assoc,g _ (by simp at m;omega),List.getElem?_drop]
theorem SlAt.upto{w:World}{B d:Nat}{a:Option Addr}{n c:Nat}{xs:List Value}(h:SlAt w B d a n c xs){k m:Nat}(p:k<=n)(hm:k<=m)(hmc:m<=c):
  SlAt w B d a k m (xs.take (k*d)):=by
 have v:=h.hle;have t:=h.hmax;have l:k*d<=n*d:=Nat.mul_le_mul_right _ p;refine⟨by rw[List.length_take,h.hlen];omega,hm,by omega,fun e=>by have:=h.hnil e;omega,fun j=> ?_⟩;have f:0<xs.length:=by simp at j;omega
 obtain⟨b,o,e,s,r⟩:=h.hat f;refine⟨b,o,e,s,fun i q=> ?_⟩;have g:i<k*d:=by simp at q;omega
 rw[r _ (by rw[h.hlen];omega),List.getElem?_take_of_lt g]
theorem aM.ofSl{w:World}{B:Nat}{a:Option Addr}{n c:Nat}{l:List UInt8}(h:SlAt w B 1 a n c (l.map bv))(hn:n<=140737488355328):aM w B a n c l:=ew h hn
section
variable {P : Program} {T e : TypeId} {size : Nat} (hT : P.underlying T = some (.slice e)) (he : (P.info? e).map (·.size) = some size)
include hT he
theorem mL(a:Option Addr)(n c:Nat)(kk:IntKind)(k:Nat)(hk:k<=n)(w:World):
  (Instr.slice T (.slice a n c) (some (.int kk (k:Int))) none none).run P w= .ok (.slice (if c=k then a else a.map (·.add (k*size))) (n-k) (c-k)) w:=by
 cases hi:P.info? e with
 | none=>simp[hi]at he
 | some i=>
  have b:i.size=size:=by simpa[hi] using he
  simp[Instr.slice,run_underlying hT,Instr.sliceBounds,run_sliceBound,sizeOf,typeInfo,hi,b,hk]
theorem mK(a:Option Addr)(n c:Nat)(kk:IntKind)(k:Nat)(hk:k<=c)(w:World):
  (Instr.slice T (.slice a n c) none (some (.int kk (k:Int))) none).run P w= .ok (.slice a k c) w:=by
 cases hi:P.info? e with
 | none=>simp[hi]at he
 | some i=>simp[Instr.slice,run_underlying hT,Instr.sliceBounds,run_sliceBound,sizeOf,typeInfo,hi,hk];intro _;cases a<;>simp[Addr.add]
end
end Go.Proofs.YtogcnfhmcpkdcaaGreat
