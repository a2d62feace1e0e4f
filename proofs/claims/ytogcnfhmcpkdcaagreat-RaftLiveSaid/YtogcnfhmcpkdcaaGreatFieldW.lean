/-
Operations on structs and rows of many cells, as laws for a walk: nothing is unrolled. No program in sight.
-/
import Derived.Test.YtogcnfhmcpkdcaaGreatMemB
import Derived.Deep.MidRow
import Derived.Laws.Tables
import Derived.WalkKit
import Derived.Below
import Derived.RegionTactic
import Derived.BigFrame
import Derived.OrdersHeld
namespace Go.Proofs.YtogcnfhmcpkdcaaGreat
open Go.RowKit
set_option linter.unusedVariables false
section
variable {P : Program}
theorem lQ{b:Array Oper}{rest:List Oper}{o:Oper}{a:Act}{w:World}{Q:Exit->Act->World->Prop}(c:o.guard=none)(t:TypeId)(parts:Array (Nat×Operand))(ho:o.op= .build t parts)
 (cells:Array Value)(hf:P.built t (parts.map fun(i,x)=>(i,a.eval x)).toList=some cells)
 (h:wpList P b Q rest (a.put o.dst (.agg cells)) w):wpList P b Q (o::rest) a w:=
 wpList_build c t parts ho (by rw[hf];rfl) (by rw[hf];exact h)
theorem dd{c:Func}{p u:Tmp}{a:TypeId}(h:c.results=#[.cell p a, .tmp u])(tmps:Array Value)(w:World)(g:Nat)(t:TypeId)(cs:Array Value)(fr:Nat×Nat)(d:TypeDesc)
 (e:tmps.getD p undef= .pointer (some ⟨g,0,none⟩))(hg:w.heap[g]? =some (.cells cs t fr))(hu:P.underlying a=some d)(hd:(match d with | .struct _ | .array _ _=>true | _=>false)=true)(hi:(P.info? a).map (·.size)=some cs.size):
  (results c tmps).run P w= .ok (.tuple #[.agg cs,tmps.getD u undef]) w:=by
 have b:tmps[p]?.getD undef= .pointer (some ⟨g,0,none⟩):=by simpa using e
 simp[results,h,b,asAddr,run_loadVar_row w g t a cs fr d hg hu hd hi]
theorem aI{b:Array Oper}{rest:List Oper}{o:Oper}{a:Act}{w:World}{Q:Exit->Act->World->Prop}(d:o.guard=none)(ty:TypeId)(x y:Operand)(ho:o.op= .store ty x y)
 (g:Nat)(cells:Array Value)(hx:a.eval x= .pointer (some ⟨g,0,none⟩))(hy:a.eval y= .agg cells)
 (t:TypeId)(old:Array Value)(hg:w.heap[g]? =some (.cells old t (0,0)))(hi:(P.info? ty).map (·.size)=some cells.size)
 (c:old.size=cells.size)(h1:cells.all (·.oneCell')=true)
 (h:∀W:World,W.heap[g]? =some (.cells cells t (0,0))->(∀k,k≠g->W.heap[k]? =w.heap[k]?)->Below g w W->W.heap.size=w.heap.size->wpList P b Q rest (a.put o.dst undef) W):wpList P b Q (o::rest) a w:=
 wpList_store_row d ty x y ho g cells hx hy t old hg hi c h1
  (h _ (setRow_heap _ _ _ _ _ _ hg) (fun k e=>setRow_other _ _ _ _ e) ⟨rfl,rfl,rfl,by simp,fun k e=>setRow_other _ _ _ _ (by omega)⟩ (by simp))
end
section
variable {P : Program}
theorem mv{b:Array Oper}{rest:List Oper}{o:Oper}{a:Act}{w:World}{Q:Exit->Act->World->Prop}(c:o.guard=none)(ty:TypeId)(x:Operand)(ho:o.op= .box ty x)
 (cells:Array Value)(hx:a.eval x= .agg cells)
 (h:∀W:World,W.heap[w.heap.size]? =some (.cells cells ty (0,0))->Below w.heap.size w W->W.heap.size=w.heap.size+1->wpList P b Q rest (a.put o.dst (.pointer (some ⟨w.heap.size,0,none⟩))) W):wpList P b Q (o::rest) a w:=by
 refine wpList_plain c fun K d=> ?_
 unfold Oper.wp execOp;simp only[ho,hx];simp[Instr.box,newVar,Value.cells];exact d _ _ (h _ (heap_alloc_new w _) ((Below.refl _ w).alloc (Nat.le_refl _) _) (by simp))
theorem mu{c:Array Oper}{rest:List Oper}{o:Oper}{a:Act}{w:World}{Q:Exit->Act->World->Prop}(d:o.guard=none)(t:TypeId)(parts:List (Nat×Operand))(ho:o.op= .build t parts.toArray)
 (b:List (Nat×Value))(hv:parts.map (fun p=>(p.1,a.eval p.2))=b)(cells:Array Value)(hf:P.built t b=some cells)
 (h:wpList P c Q rest (a.put o.dst (.agg cells)) w):wpList P c Q (o::rest) a w:=
 lQ d t parts.toArray ho cells (by rw[Array.toList_map];exact(by rw[<-hf,<-hv])) h
end
section
variable {P : Program}
theorem aj{o:Oper}{a:Act}{w:World}{K:Act->World->Prop}{Q:Exit->Act->World->Prop}(e:TypeId)(x y:Operand)(ho:o.op= .store e x y)
 (b c:Nat)(v u:Value)(hx:a.eval x= .pointer (some ⟨b,c,none⟩))(hy:a.eval y=v)(h1:v.oneCell'=true)(hi:(P.info? e).map (·.size)=some 1)(hc:w.cell? ⟨b,c,none⟩=some u)(hf:w.frozen? ⟨b,c,none⟩=false)
 (h:K (a.put o.dst undef) (w.setCell ⟨b,c,none⟩ v)):o.wp P a w K Q:=by
 have n:v.cells=#[v]:=by cases v<;>first | rfl | cases h1
 have m:∃i,P.info? e=some i/\i.size=1:=by
  cases hq:P.info? e with
  | none=>simp[hq]at hi
  | some i=>exact⟨i,rfl,by simpa[hq] using hi⟩
 obtain⟨i,l,k⟩:=m;unfold Oper.wp execOp;have d:=run_storeCells_cells (P:=P) b c [v] 0 w (fun j g=>by
   have:j=0:=by simpa using g
   subst this;simpa using by rw[hc];rfl) (fun j g=>by
   have:j=0:=by simpa using g
   subst this;simpa using hf) (fun u p=>by simp at p;subst p;exact h1)
 simp only[Nat.add_zero]at d;simp only[ho,hx,hy,Instr.storeAt,Instr.sureAddr,Sem.run_bind,Sem.run_pure,Result.andThen_ok];have f:(storeVar e ⟨b,c,none⟩ v).run P w= .ok () (w.setCell ⟨b,c,none⟩ v):=by simp[storeVar,sizeOf,typeInfo,l,k,n,d];rfl
 rw[f];exact h
theorem gc{b:Array Oper}{S:World->Prop}{c:Oper}{a:Act}(f:Region.wanted c (yielded b a.tmps)=true)(ty:TypeId)(x:Operand)(ho:c.op= .load ty x)
 (g:Nat)(hx:a.eval x= .pointer (some ⟨g,0,none⟩))(t:TypeId)(cs:Array Value)(d:TypeDesc)(hS:∀w,S w->w.heap[g]? =some (.cells cs t (0,0)))
 (h:P.underlying ty=some d)(hd:d.isRow=true)(hi:(P.info? ty).map (·.size)=some cs.size):YieldsIf P b S c (.agg cs) a:=
 .inl ⟨f,fun w e=>by unfold execOp;simp only[ho,hx,Instr.loadAt,Instr.sureAddr,Sem.run_bind,Sem.run_pure,Result.andThen_ok,run_loadVar_row w g t ty cs (0,0) d (hS w e) h (by cases d<;>simp_all) hi]⟩
end
end Go.Proofs.YtogcnfhmcpkdcaaGreat
