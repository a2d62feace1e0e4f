/-
A region that draws its order, inside a round of a range over a function, where the fence is the wide one: it is walked as outside. No program in sight.
-/
import Derived.Test.YtogcnfhmcpkdcaaGreatFieldW
import Derived.RangeFuncWrites
import Derived.RangeFuncCalls
import Derived.OrdersIn
import Derived.OrdersHeld
import Derived.StillTail
namespace Go.Proofs.YtogcnfhmcpkdcaaGreat
open Go.RowKit
set_option linter.unusedVariables false
def xL(o:Oper):Bool:=match o.op with | .defer _=>false | _=>true
def calm(o:Oper):Prop:=∀c,o.op≠.defer c
theorem xv{ops:Array Oper}(h:ops.all xL=true)(i:Nat)(o:Oper)(ho:ops[i]? =some o):calm o:=by intro c hc;obtain⟨hi,he⟩:=Array.getElem?_eq_some_iff.1 ho;have:=(Array.all_eq_true.1 h) i hi;rw[he]at this;simp[xL,hc]at this
theorem mM{P:Program}{row:String}{args:Array Value}{w:World}{R:Value->World->Prop}{l n:Nat}(h:Rows P row args w R):RowsIn (Fence.wide.inRound l) n P row args w R:=fun c cs _=>let ⟨v,w',r,s⟩:=h c cs;⟨v,w',r,stepsIn_wide.2 s⟩
theorem rL{P:Program}{o:Oper}{a:Act}{w:World}{K:Act->World->Prop}{Q:Exit->Act->World->Prop}{l n:Nat}(hc:calm o)(h:o.wp P a w K Q):o.wpIn (Fence.wide.inRound l) n P a w K Q:=by
 refine⟨fun f _=>trivial,?_⟩;rw[Oper.semAt_eq _ _ _ hc];unfold Oper.wp at h;generalize (execOp a.eval o).run P w=r at*;cases r with
 | ok x w'=>
  cases x<;>simp only[Oper.upon,Oper.uponIn]at h ⊢
  all_goals first
   | exact h
   | exact h.elim
   | exact⟨fun hd=>(by cases hd),mM h⟩
   | exact⟨fun hd=>(by cases hd),CallsIn.inRound l (callsIn_wide.2 h)⟩
 | halt x w'=>cases x<;>simp only[Oper.upon,Oper.uponIn]at h ⊢<;>exact h
theorem dC{P:Program}{md:Region.Mode}{ops:Array Oper}{Q:Exit->Act->World->Prop}{l n:Nat}(hc:∀(i:Nat) (o:Oper),ops[i]? =some o->calm o)(hQ:¬LetsOut Q):
  ∀(fuel:Nat) (listed:Array Bool) (a:Act) (w:World),wpAny P md ops Q fuel listed a w->wpAnyIn (Fence.wide.inRound l) n P md ops Q fuel listed a w
 | 0,_,_,_,h=>h
 | fuel+1,listed,a,w,h=>⟨h.1,fun i hi=>by
   have h2:=h.2 i hi;unfold wpOp at h2;unfold wpOpIn;cases ho:ops[i]? with
   | none=>simp only[ho]at h2 ⊢;exact dC hc hQ fuel _ _ _ h2
   | some o=>
    simp only[ho]at h2 ⊢;split
    ·rename_i hw
     simp only[hw,if_true]at h2;rcases h2 with h2 | ⟨_,h2⟩
     ·exact Oper.wpIn_mono (fun a w=>dC hc hQ fuel _ a w) (rL (hc i o ho) h2)
     ·exact absurd h2 hQ
    ·rename_i hw
     simp only[hw]at h2;exact⟨fun f _=>trivial,dC hc hQ fuel _ _ _ h2⟩⟩
theorem kG{P:Program}{id:Nat}{ops:Array Oper}{Q:Exit->Act->World->Prop}{l n:Nat}{a:Act}{w:World}(hm:P.follows .mixedOrders=true)(hc:∀(i:Nat) (o:Oper),ops[i]? =some o->calm o)(hQ:¬LetsOut Q)
 (h:wpAny P .any ops Q ops.size (Array.replicate ops.size false) a w.drew):(Code.region id ops true).wpIn (Fence.wide.inRound l) n P Q a w:=
 wpIn_region_any hm (dC hc hQ _ _ _ _ h)
theorem fq{P:Program}{ops:Array Oper}{Q:Exit->Act->World->Prop}{i:Nat}{o:Oper}{K:Act->World->Prop}{a:Act}{w:World}(hi:ops[i]? =some o)(hw:Region.wanted o (yielded ops a.tmps)=true)(h:o.wp P a w K Q):wpOp P ops Q i K a w:=by unfold wpOp;simp only[hi,hw,if_true];exact .inl h
theorem gx{P:Program}{ops:Array Oper}{Q:Exit->Act->World->Prop}{i:Nat}{o:Oper}{K:Act->World->Prop}{a:Act}{w w1:World}{v:Value}(hi:ops[i]? =some o)(hw:Region.wanted o (yielded ops a.tmps)=true)(hr:Sem.run P (execOp a.eval o) w= .ok (.value v) w1)(h:K (a.put o.dst v) w1):wpOp P ops Q i K a w:=by refine fq hi hw ?_;unfold Oper.wp;rw[hr];exact h
theorem oC{P:Program}{ops:Array Oper}{Q:Exit->Act->World->Prop}{i:Nat}{o:Oper}{K:Act->World->Prop}{a:Act}{w w1:World}(hi:ops[i]? =some o)(hw:Region.wanted o (yielded ops a.tmps)=true)(hr:Sem.run P (execOp a.eval o) w= .ok .skip w1)(h:K (a.put o.dst undef) w1):wpOp P ops Q i K a w:=by refine fq hi hw ?_;unfold Oper.wp;rw[hr];exact h
theorem dT{P:Program}{md:Region.Mode}{ops:Array Oper}{Q:Exit->Act->World->Prop}{S:World->Prop}{i:Nat}{fuel:Nat}{listed:Array Bool}{a:Act}{w:World}(hr:Region.ready md ops listed= [i])
 (h:wpOp P ops Q i (fun a' w'=>S w'/\wpAnyH P md ops Q S fuel (listed.setIfInBounds i true) a' w') a w):wpAnyH P md ops Q S (fuel+1) listed a w:=
 wpAnyH_all hr (by simp) (fun j hj=>by simp at hj;subst hj;exact h)
theorem mw{P:Program}{md:Region.Mode}{ops:Array Oper}{Q:Exit->Act->World->Prop}{S:World->Prop}{i j:Nat}{fuel:Nat}{listed:Array Bool}{a:Act}{w:World}(hr:Region.ready md ops listed= [i,j])
 (h:wpOp P ops Q i (fun a' w'=>S w'/\wpAnyH P md ops Q S fuel (listed.setIfInBounds i true) a' w') a w)
 (h':wpOp P ops Q j (fun a' w'=>S w'/\wpAnyH P md ops Q S fuel (listed.setIfInBounds j true) a' w') a w):wpAnyH P md ops Q S (fuel+1) listed a w:=
 wpAnyH_all hr (by simp) (fun k hk=>by simp at hk;rcases hk with rfl | rfl<;>assumption)
section
variable {P : Program} {md : Region.Mode} {ops : Array Oper} {Q : Exit -> Act -> World -> Prop} {S : World -> Prop} {fuel : Nat} {listed : Array Bool} {w : World} {ts : List Value} {ds : List Deferred}
theorem aG(i d:Nat){oi:Oper}{v:Value}(hi:ops[i]? =some oi)(hd:oi.dst=some d)
 (hs:Region.noSelect ops=true)(hf:Region.free md ops listed i=true)(hr:(Region.ready md ops listed).contains i=true)
 (hQ:∀c a w,Q (.panic c) (a.put oi.dst v) w->Q (.panic c) a w)(hS:S w)(hy:YieldsIf P ops S oi v ⟨ts.toArray,ds⟩)
 (h:wpAnyH P md ops Q S fuel (listed.setIfInBounds i true) ⟨(ts.set d v).toArray,ds⟩ w):wpAnyH P md ops Q S (fuel+1) listed ⟨ts.toArray,ds⟩ w:=
 wpAnyH_take hi hs hf hr hQ hy hS (by
  have e:Act.put ⟨ts.toArray,ds⟩ oi.dst v=⟨(ts.set d v).toArray,ds⟩:=by simp[Act.put,hd]
  rw[e];exact h)
theorem xm(j:Nat){o:Oper}{a:Act}(hr:Region.ready md ops listed= [j])(hj:ops[j]? =some o)(hw:Region.wanted o (yielded ops a.tmps)=true)
 (h:o.wp P a w (fun a' w'=>S w'/\wpAnyH P md ops Q S fuel (listed.setIfInBounds j true) a' w') Q):wpAnyH P md ops Q S (fuel+1) listed a w:=
 dT hr (fq hj hw h)
theorem hT(i d:Nat){oi:Oper}{v:Value}{us:List Value}(hS:S w)(h:wpAnyH P md ops Q S fuel (listed.setIfInBounds i true) ⟨us.toArray,ds⟩ w)
 (hi:ops[i]? =some oi:=by rfl)(hd:oi.dst=some d:=by rfl)(hs:Region.noSelect ops=true:=by kernel_rfl)(hf:Region.free md ops listed i=true:=by kernel_rfl)(hr:(Region.ready md ops listed).contains i=true:=by kernel_rfl)
 (hQ:∀c a w,Q (.panic c) (a.put oi.dst v) w->Q (.panic c) a w:=by exact fun _ _ _ h=>h)
 (hy:YieldsIf P ops S oi v ⟨ts.toArray,ds⟩:=by exact .inl ⟨by rfl,by intro w' hS;cases hS;go_simp;(try rfl)⟩)
 (hu:ts.set d v=us:=by simp only[List.set_cons_zero,List.set_cons_succ];rfl):wpAnyH P md ops Q S (fuel+1) listed ⟨ts.toArray,ds⟩ w:=by
 subst hu;exact aG i d hi hd hs hf hr hQ hS hy h
theorem hN(i d:Nat){oi:Oper}{us:List Value}(hS:S w)(h:wpAnyH P md ops Q S fuel (listed.setIfInBounds i true) ⟨us.toArray,ds⟩ w)
 (hi:ops[i]? =some oi:=by rfl)(hd:oi.dst=some d:=by rfl)(hs:Region.noSelect ops=true:=by kernel_rfl)(hf:Region.free md ops listed i=true:=by kernel_rfl)(hr:(Region.ready md ops listed).contains i=true:=by kernel_rfl)
 (hQ:∀c a w,Q (.panic c) (a.put oi.dst undef) w->Q (.panic c) a w:=by exact fun _ _ _ h=>h)
 (hy:YieldsIf P ops S oi undef ⟨ts.toArray,ds⟩:=by exact .inr ⟨by rfl,rfl⟩)
 (hu:ts.set d undef=us:=by simp only[List.set_cons_zero,List.set_cons_succ];rfl):wpAnyH P md ops Q S (fuel+1) listed ⟨ts.toArray,ds⟩ w:=by
 subst hu;exact aG i d hi hd hs hf hr hQ hS hy h
theorem hV(i d:Nat)(v:Value){oi:Oper}{us:List Value}(hS:S w)(h:wpAnyH P md ops Q S fuel (listed.setIfInBounds i true) ⟨us.toArray,ds⟩ w)
 (hi:ops[i]? =some oi:=by rfl)(hd:oi.dst=some d:=by rfl)(hs:Region.noSelect ops=true:=by kernel_rfl)(hf:Region.free md ops listed i=true:=by kernel_rfl)(hr:(Region.ready md ops listed).contains i=true:=by kernel_rfl)
 (hQ:∀c a w,Q (.panic c) (a.put oi.dst v) w->Q (.panic c) a w:=by exact fun _ _ _ h=>h)
 (hy:YieldsIf P ops S oi v ⟨ts.toArray,ds⟩:=by exact .inl ⟨by rfl,by intro w' hS;clear hS;go_simp;(try (all_goals rfl))⟩)
 (hu:ts.set d v=us:=by simp only[List.set_cons_zero,List.set_cons_succ];rfl):wpAnyH P md ops Q S (fuel+1) listed ⟨ts.toArray,ds⟩ w:=by
 subst hu;exact aG i d hi hd hs hf hr hQ hS hy h
theorem hW(i d:Nat)(v:Value){oi:Oper}{us:List Value}(hS:S w)(h:wpAnyH P md ops Q S fuel (listed.setIfInBounds i true) ⟨us.toArray,ds⟩ w)
 (hi:ops[i]? =some oi:=by rfl)(hd:oi.dst=some d:=by rfl)(hs:Region.noSelect ops=true:=by kernel_rfl)(hf:Region.free md ops listed i=true:=by kernel_rfl)(hr:(Region.ready md ops listed).contains i=true:=by kernel_rfl)
 (hQ:∀c a w,Q (.panic c) (a.put oi.dst v) w->Q (.panic c) a w:=by exact fun _ _ _ h=>h)
 (hy:YieldsIf P ops S oi v ⟨ts.toArray,ds⟩:=by exact .inl ⟨by rfl,by intro w' hS;cases hS;go_simp;(try (all_goals rfl))⟩)
 (hu:ts.set d v=us:=by simp only[List.set_cons_zero,List.set_cons_succ];rfl):wpAnyH P md ops Q S (fuel+1) listed ⟨ts.toArray,ds⟩ w:=by
 subst hu;exact aG i d hi hd hs hf hr hQ hS hy h
theorem bp(j:Nat){o:Oper}{a:Act}(h:o.wp P a w (fun a' w'=>S w'/\wpAnyH P md ops Q S fuel (listed.setIfInBounds j true) a' w') Q)
 (hr:Region.ready md ops listed= [j]:=by kernel_rfl)(hj:ops[j]? =some o:=by rfl)(hw:Region.wanted o (yielded ops a.tmps)=true:=by rfl):wpAnyH P md ops Q S (fuel+1) listed a w:=xm j hr hj hw h
theorem nU(i j:Nat){o o':Oper}{a:Act}(h:o.wp P a w (fun a' w'=>S w'/\wpAnyH P md ops Q S fuel (listed.setIfInBounds i true) a' w') Q)(h':o'.wp P a w (fun a' w'=>S w'/\wpAnyH P md ops Q S fuel (listed.setIfInBounds j true) a' w') Q)
 (hr:Region.ready md ops listed= [i,j]:=by kernel_rfl)(hi:ops[i]? =some o:=by rfl)(hw:Region.wanted o (yielded ops a.tmps)=true:=by rfl)(hj:ops[j]? =some o':=by rfl)(hw':Region.wanted o' (yielded ops a.tmps)=true:=by rfl):wpAnyH P md ops Q S (fuel+1) listed a w:=mw hr (fq hi hw h) (fq hj hw' h')
theorem dc{a:Act}(h:Q .normal a w)(hr:Region.ready md ops listed= []:=by kernel_rfl):wpAnyH P md ops Q S fuel listed a w:=wpAnyH_done hr h fuel
theorem fx{id:Nat}{a:Act}(h:wpAnyH P .any ops Q S ops.size (Array.replicate ops.size false) a { w with drawn:=w.drawn+1 })(hm:P.follows .mixedOrders=true:=by kernel_rfl):(Code.region id ops true).wp P Q a w:=wp_region_held hm h
theorem lT{id:Nat}{a:Act}(h:∀Y,Below w.heap.size w Y->wpAnyH P .any ops Q S ops.size (Array.replicate ops.size false) a Y)(hm:P.follows .mixedOrders=true:=by kernel_rfl):(Code.region id ops true).wp P Q a w:=wp_region_held hm (h w.drew (Below.refl _ _).drew)
end
section
variable {P : Program} {md : Region.Mode} {ops : Array Oper} {Q : Exit -> Act -> World -> Prop} {S : World -> Prop} {z : Nat}
def uO(md:Region.Mode)(ops:Array Oper)(L:Array Bool):Prop:=∀(j:Nat) (o:Oper),ops[j]? =some o->L.getD j false=true->∀e∈o.after,Region.binds md e=true->L.getD e.on false=true
def nr(md:Region.Mode)(ops:Array Oper)(z:Nat):Bool:=(List.range ops.size).all fun i=>i==z || (List.range ops.size).any fun j=>decide (i<j) && (match ops[j]? with
 | some o=>o.after.any fun e=>Region.binds md e && e.on==i
 | none=>false)
theorem sx(h:nr md ops z=true){i:Nat}(hi:i<ops.size)(hz:i≠z):∃j o,i<j/\j<ops.size/\ops[j]? =some o/\∃e∈o.after,Region.binds md e=true/\e.on=i:=by
 unfold nr at h;rw[List.all_eq_true]at h;have h1:=h i (List.mem_range.2 hi);rw[Bool.or_eq_true]at h1;rcases h1 with h1 | h1
 ·exact absurd (by simpa using h1) hz
 ·rw[List.any_eq_true]at h1;obtain⟨j,hj,h2⟩:=h1;rw[Bool.and_eq_true]at h2;cases ho:ops[j]? with
  | none=>rw[ho]at h2;cases h2.2
  | some o=>rw[ho]at h2;have h3:=h2.2;simp only[Array.any_eq_true',Bool.and_eq_true,beq_iff_eq]at h3;obtain⟨e,he,hb,hon⟩:=h3;exact⟨j,o,by simpa using h2.1,List.mem_range.1 hj,ho,e,he,hb,hon⟩
theorem pZ{L:Array Bool}{i:Nat}(h:L.getD i true=false):L.getD i false=false:=by
 rcases Nat.lt_or_ge i L.size with h9 | h9
 ·simp[h9]at h ⊢;exact h
 ·simp[Array.getElem?_eq_none h9]at h
theorem ot(hl:nr md ops z=true){L:Array Bool}(hc:uO md ops L)(hz:z∈Region.ready md ops L):∀(d i:Nat),ops.size-i=d->i<ops.size->L.getD i false=false->i=z:=by
 intro d
 induction d using Nat.strongRecOn with
 | ind d ih=>
  intro i hd hi hu;by_cases e:i=z
  ·exact e
  ·exfalso;obtain⟨j,o,h1,h2,h3,x,h4,h5,h6⟩:=sx hl hi e;have hju:L.getD j false=false:=by
    cases hj:L.getD j false with
    | false=>rfl
    | true=>have h9:=hc j o h3 hj x h4 h5;rw[h6,hu]at h9;cases h9
   have hjz:=ih (ops.size-j) (by omega) j rfl h2 hju;subst hjz;obtain⟨-,o2,h7,h8⟩:=mem_ready.1 hz;rw[h3]at h7;injection h7 with h7;subst h7
   have h9:=h8 x h4 h5;rw[h6,hu]at h9;cases h9
theorem uO.set{L:Array Bool}(h:uO md ops L){i:Nat}(hr:i∈Region.ready md ops L):uO md ops (L.setIfInBounds i true):=by
 intro j o ho hj e he hb;by_cases hij:j=i
 ·subst hij;obtain⟨-,o2,h7,h8⟩:=mem_ready.1 hr;rw[ho]at h7;injection h7 with h7;subst h7
  exact getD_set_true (h8 e he hb)
 ·rw[getD_set_ne false (Ne.symm hij)]at hj;exact getD_set_true (h j o ho hj e he hb)
def rH(P:Program)(md:Region.Mode)(ops:Array Oper)(Q:Exit->Act->World->Prop)(S:World->Prop)(z:Nat):Nat->Array Bool->Act->World->Prop
 | 0,L,a,w=>Region.ready md ops L= []/\Q .normal a w
 | k+1,L,a,w=>(Region.ready md ops L= []->Q .normal a w)/\∀i∈Region.ready md ops L,wpOp P ops Q i (fun a2 w2=>(i=z\/S w2)/\rH P md ops Q S z k (L.setIfInBounds i true) a2 w2) a w
theorem rH.any:∀ {k:Nat} {L:Array Bool} {a:Act} {w:World},rH P md ops Q S z k L a w->wpAny P md ops Q k L a w
 | 0,_,_,_,h=>h
 | k+1,_,_,_,h=>⟨h.1,fun i hi=>wpOp_mono (fun _ _ h9=>h9.2.any) (h.2 i hi)⟩
theorem rH.first(hl:nr md ops z=true){i:Nat}{o:Oper}{v:Value}(ho:ops[i]? =some o)(hsel:∀(j:Nat) (x:Oper) cs b,ops[j]? =some x->x.op≠.select cs b)(hQ:∀c a w,Q (.panic c) (a.put o.dst v) w->Q (.panic c) a w):
  ∀ {k:Nat} {L:Array Bool} {a:Act} {w:World},uO md ops L->(∀j x,ops[j]? =some x->j≠i->L.getD j true=false->(∀e∈x.after,Region.binds md e=true->e.on≠i)->o.apart ops x=true)->i∈Region.ready md ops L->YieldsIf P ops S o v a->S w->
   rH P md ops Q S z k (L.setIfInBounds i true) (a.put o.dst v) w->rH P md ops Q S z (k+1) L a w:=by
 intro k
 induction k with
 | zero=>
  intro L a w _ _ hr hy hS H;refine⟨fun h9=>(by rw[h9]at hr;cases hr),fun j hj=> ?_⟩;by_cases e:j=i
  ·subst e;exact hy.wpOp ho hS ⟨.inr hS,H⟩
  ·have h9:=ready_mono hj e;rw[H.1]at h9;cases h9
 | succ k ih=>
  intro L a w hc hfree hr hy hS H;refine⟨fun h9=>(by rw[h9]at hr;cases hr),fun j hj=> ?_⟩;by_cases e:j=i
  ·subst e;exact hy.wpOp ho hS ⟨.inr hS,H⟩
  ·have h1:=H.2 j (ready_mono hj e);obtain⟨hjn,x,hx,hall⟩:=mem_ready.1 hj;have hin:=(mem_ready.1 hr).1;have hjz:j≠z:=fun h9=>by
    subst h9;exact e (ot hl hc hj _ i rfl (Array.getElem?_eq_some_iff.1 ho).1 (pZ hin)).symm
   have hno:∀y∈x.after,Region.binds md y=true->y.on≠i:=fun y hy' hb he=>by have h5:=hall y hy' hb;rw[he,pZ hin]at h5;cases h5
   have h2:=wpOp_putIf hx (hfree j x hx e hjn hno) (fun cs b=>hsel i o cs b ho) (fun cs b=>hsel j x cs b hx) hQ hy h1;refine wpOp_mono (fun a' w' h3=> ?_) h2;have h4:S w':=h3.2.1.resolve_left hjz;refine⟨.inr h4,ih (hc.set hj) (fun y t hy2 hyi hun hn=>hfree y t hy2 hyi ?_ hn) (ready_mono hr (Ne.symm e)) h3.1 h4 ?_⟩
   ·by_cases hjy:j=y
    ·subst hjy;exact hjn
    ·rw[getD_set_ne true hjy]at hun;exact hun
   ·rw[Array.setIfInBounds_comm _ _ e];exact h3.2.2
def iX(P:Program)(md:Region.Mode)(ops:Array Oper)(Q:Exit->Act->World->Prop)(S:World->Prop)(z k:Nat)(L:Array Bool)(a:Act)(w:World):Prop:=nr md ops z=true->uO md ops L->rH P md ops Q S z k L a w
theorem sL{n k:Nat}{a:Act}{w:World}(hl:nr md ops z=true)(h:iX P md ops Q S z k (Array.replicate n false) a w):wpAny P md ops Q k (Array.replicate n false) a w:=
 (h hl (fun j o ho hj=>by
  exfalso;rcases Nat.lt_or_ge j n with h9 | h9
  ·simp[h9]at hj
  ·simp[h9]at hj)).any
variable {fuel : Nat} {listed : Array Bool} {w : World} {ts : List Value} {ds : List Deferred}
theorem kR(i d:Nat){oi:Oper}{v:Value}(hi:ops[i]? =some oi)(hd:oi.dst=some d)
 (hs:Region.noSelect ops=true)(hf:Region.free md ops listed i=true)(hr:(Region.ready md ops listed).contains i=true)
 (hQ:∀c a w,Q (.panic c) (a.put oi.dst v) w->Q (.panic c) a w)(hS:S w)(hy:YieldsIf P ops S oi v ⟨ts.toArray,ds⟩)
 (h:iX P md ops Q S z fuel (listed.setIfInBounds i true) ⟨(ts.set d v).toArray,ds⟩ w):iX P md ops Q S z (fuel+1) listed ⟨ts.toArray,ds⟩ w:=fun hl hc=>by
 have hr9:i∈Region.ready md ops listed:=by simpa using hr
 refine rH.first hl hi (Region.noSelect_spec hs) hQ hc (Region.free_spec hi hf) hr9 hy hS ?_;have e:Act.put ⟨ts.toArray,ds⟩ oi.dst v=⟨(ts.set d v).toArray,ds⟩:=by simp[Act.put,hd]
 rw[e];exact h hl (hc.set hr9)
theorem vK(j:Nat){o:Oper}{a:Act}(hr:Region.ready md ops listed= [j])(hj:ops[j]? =some o)(hw:Region.wanted o (yielded ops a.tmps)=true)
 (h:o.wp P a w (fun a' w'=>S w'/\iX P md ops Q S z fuel (listed.setIfInBounds j true) a' w') Q):iX P md ops Q S z (fuel+1) listed a w:=fun hl hc=>by
 have hr9:j∈Region.ready md ops listed:=by rw[hr];simp
 refine⟨fun h0=>(by rw[h0]at hr;cases hr),fun k hk=> ?_⟩;rw[hr]at hk;simp at hk;subst hk;exact wpOp_mono (fun a' w' h9=>⟨.inr h9.1,h9.2 hl (hc.set hr9)⟩) (fq hj hw h)
theorem uz{o:Oper}{a:Act}(hr:Region.ready md ops listed= [z])(hr2:Region.ready md ops (listed.setIfInBounds z true)= [])(hj:ops[z]? =some o)(hw:Region.wanted o (yielded ops a.tmps)=true)
 (h:o.wp P a w (fun a' w'=>Q .normal a' w') Q):iX P md ops Q S z (fuel+1) listed a w:=fun hl hc=>by
 refine⟨fun h0=>(by rw[h0]at hr;cases hr),fun k hk=> ?_⟩;rw[hr]at hk;simp at hk;subst hk;refine wpOp_mono (fun a' w' h9=>⟨.inl rfl,?_⟩) (fq hj hw h);cases fuel with
 | zero=>exact⟨hr2,h9⟩
 | succ k=>exact⟨fun _=>h9,fun i hi=>(by rw[hr2]at hi;cases hi)⟩
theorem cK(i d:Nat){oi:Oper}{v:Value}{us:List Value}(hS:S w)(h:iX P md ops Q S z fuel (listed.setIfInBounds i true) ⟨us.toArray,ds⟩ w)
 (hi:ops[i]? =some oi:=by rfl)(hd:oi.dst=some d:=by rfl)(hs:Region.noSelect ops=true:=by kernel_rfl)(hf:Region.free md ops listed i=true:=by kernel_rfl)(hr:(Region.ready md ops listed).contains i=true:=by kernel_rfl)
 (hQ:∀c a w,Q (.panic c) (a.put oi.dst v) w->Q (.panic c) a w:=by exact fun _ _ _ h=>h)
 (hy:YieldsIf P ops S oi v ⟨ts.toArray,ds⟩:=by exact .inl ⟨by rfl,by intro w' hS;cases hS;go_simp;(try rfl)⟩)
 (hu:ts.set d v=us:=by simp only[List.set_cons_zero,List.set_cons_succ];rfl):iX P md ops Q S z (fuel+1) listed ⟨ts.toArray,ds⟩ w:=by
 subst hu;exact kR i d hi hd hs hf hr hQ hS hy h
theorem xo(i d:Nat)(v:Value){oi:Oper}{us:List Value}(hS:S w)(h:iX P md ops Q S z fuel (listed.setIfInBounds i true) ⟨us.toArray,ds⟩ w)
 (hi:ops[i]? =some oi:=by rfl)(hd:oi.dst=some d:=by rfl)(hs:Region.noSelect ops=true:=by kernel_rfl)(hf:Region.free md ops listed i=true:=by kernel_rfl)(hr:(Region.ready md ops listed).contains i=true:=by kernel_rfl)
 (hQ:∀c a w,Q (.panic c) (a.put oi.dst v) w->Q (.panic c) a w:=by exact fun _ _ _ h=>h)
 (hy:YieldsIf P ops S oi v ⟨ts.toArray,ds⟩:=by exact .inl ⟨by rfl,by intro w' hS;clear hS;go_simp;(try (all_goals rfl))⟩)
 (hu:ts.set d v=us:=by simp only[List.set_cons_zero,List.set_cons_succ];rfl):iX P md ops Q S z (fuel+1) listed ⟨ts.toArray,ds⟩ w:=by
 subst hu;exact kR i d hi hd hs hf hr hQ hS hy h
theorem zm(i d:Nat)(v:Value){oi:Oper}{us:List Value}(hS:S w)(h:iX P md ops Q S z fuel (listed.setIfInBounds i true) ⟨us.toArray,ds⟩ w)
 (hi:ops[i]? =some oi:=by rfl)(hd:oi.dst=some d:=by rfl)(hs:Region.noSelect ops=true:=by kernel_rfl)(hf:Region.free md ops listed i=true:=by kernel_rfl)(hr:(Region.ready md ops listed).contains i=true:=by kernel_rfl)
 (hQ:∀c a w,Q (.panic c) (a.put oi.dst v) w->Q (.panic c) a w:=by exact fun _ _ _ h=>h)
 (hy:YieldsIf P ops S oi v ⟨ts.toArray,ds⟩:=by exact .inl ⟨by rfl,by intro w' hS;cases hS;go_simp;(try (all_goals rfl))⟩)
 (hu:ts.set d v=us:=by simp only[List.set_cons_zero,List.set_cons_succ];rfl):iX P md ops Q S z (fuel+1) listed ⟨ts.toArray,ds⟩ w:=by
 subst hu;exact kR i d hi hd hs hf hr hQ hS hy h
theorem nV(j:Nat){o:Oper}{a:Act}(h:o.wp P a w (fun a' w'=>S w'/\iX P md ops Q S z fuel (listed.setIfInBounds j true) a' w') Q)
 (hr:Region.ready md ops listed= [j]:=by kernel_rfl)(hj:ops[j]? =some o:=by rfl)(hw:Region.wanted o (yielded ops a.tmps)=true:=by rfl):iX P md ops Q S z (fuel+1) listed a w:=vK j hr hj hw h
theorem yq{o:Oper}{a:Act}(h:o.wp P a w (fun a' w'=>Q .normal a' w') Q)(hr:Region.ready md ops listed= [z]:=by kernel_rfl)(hr2:Region.ready md ops (listed.setIfInBounds z true)= []:=by kernel_rfl)(hj:ops[z]? =some o:=by rfl)(hw:Region.wanted o (yielded ops a.tmps)=true:=by rfl):iX P md ops Q S z (fuel+1) listed a w:=uz hr hr2 hj hw h
theorem sQ{id:Nat}{a:Act}(z:Nat)(h:∀Y,Below w.heap.size w Y->iX P .any ops Q S z ops.size (Array.replicate ops.size false) a Y)(hl:nr .any ops z=true:=by kernel_rfl)(hm:P.follows .mixedOrders=true:=by kernel_rfl):(Code.region id ops true).wp P Q a w:=wp_region_any hm (sL hl (h w.drew (Below.refl _ _).drew))
end
end Go.Proofs.YtogcnfhmcpkdcaaGreat
