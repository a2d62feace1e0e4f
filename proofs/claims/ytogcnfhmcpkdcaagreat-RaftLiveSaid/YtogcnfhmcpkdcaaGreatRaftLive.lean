/-
  Whatever happened to a group ahead, as soon as all letters come one leads within 150 ticks, and what is proposed to it is handed out by all within 12: RaftLive answers true for every input. No condition.
-/
import Derived.Test.YtogcnfhmcpkdcaaGreatClosed
import Derived.Test.YtogcnfhmcpkdcaaGreatOpenO
import Derived.Test.YtogcnfhmcpkdcaaGreatGrZ
namespace Go.Proofs.YtogcnfhmcpkdcaaGreat
open Go.ChangeShapes Go.WideShapes Go.ChangeAt Go.RowKit
set_option maxRecDepth 100000 in
theorem open_bytes {H:Type} {enc:TypeId×Value→H} {w:World} {v:Value} {d:DataW H} {ps:List MemPlace} {r:Reach} {base:Nat}
  (hok:Value.okWide Tryz.prog w r base 27 v) (h:DataW.Trod enc Tryz.prog w 0 (fun _=>true) true 27 v d ps):
  ∃ (a:Option Addr) (n c:Nat) (l:List UInt8),v= .slice a n c∧n=l.length∧(n≤140737488355328→aM w w.heap.size a n c l):=by
 obtain ⟨a,c,zs,rfl,hs,hw⟩:=mZ hok h Tryz.underlying27 Tryz.underlying5 (by kernel_rfl);obtain ⟨l,h1,h2⟩:=mz zs hw;rw [h1] at hs;exact ⟨a,zs.length,c,l,rfl,h2,fun hn=>ew hs hn⟩
end Go.Proofs.YtogcnfhmcpkdcaaGreat
namespace Go.Proofs.YtogcnfhmcpkdcaaGreat.raftLive
open Go.ChangeShapes Go.WideShapes Go.ChangeAt Go.RowKit
set_option linter.unusedVariables false
set_option maxRecDepth 100000 in
theorem lifted (os:Os) (started:os.Started) (H:Type) (enc:TypeId×Value→H):
  ReturnsInHanded {} Tryz.checked os 5 .any (Rows.raftLiveSpec.pre6 enc Tryz.prog Tryz.f5 Rows.raftLiveRow.domain false) (Rows.raftLiveSpec.post enc Tryz.prog Tryz.f5 false true false false):=by
 refine returnsInHanded_of_change (C:=Tryz.checked) ownKnob_none started (by kernel_rfl) Tryz.func5
  (ChangeSpec.witness6 (enc:=enc) (C:=Tryz.checked) false ⟨#[],#[.int .u8 0, .slice none 0 0, .slice none 0 0],[]⟩ 8 (by kernel_rfl) (by kernel_rfl) (by kernel_rfl) (by kernel_rfl)) ?_
 intro W base args ds gs before hval0 hW hcnd _;have hval:∀ (j:Nat) t v,Tryz.f5.params[j]? =some t→args[j]? =some v→Value.okWide Tryz.prog W .any base t v:=hval0;have hW':=hW;obtain ⟨p,q,hA0,hV,rfl,hfz,hnd⟩:=hW;have hA:DataW.TrodAll enc Tryz.prog W 0 (fun _=>true) true Tryz.f5.params.toList args.toList ds p:=hA0;rw [Tryz.params5] at hA hval;obtain ⟨v0,vs0,d0,ds0,p0,q0,hargs,rfl,rfl,h0,r0⟩:=trodAll_cons hA;obtain ⟨v1,vs1,d1,ds1,p1,q1,rfl,rfl,rfl,h1,r1⟩:=trodAll_cons r0;obtain ⟨v2,vs2,d2,ds2,p2,q2,rfl,rfl,rfl,h2,r2⟩:=trodAll_cons r1;obtain ⟨rfl,rfl,rfl⟩:=trodAll_nil r2;obtain rfl:args=#[v0,v1,v2]:=by cases args;simp_all
 obtain ⟨rfl,rfl⟩:=trodVars_none hV;have k0:=h0;have lt0:=jm k0;have k1:=h1;have lt1:=jm k1;have k2:=h2;have lt2:=jm k2;obtain ⟨z0,rfl,rfl,rfl,w0⟩:=open_int Tryz.underlying5 (hval 0 5 v0 rfl rfl) h0;obtain ⟨a0,rfl,b0⟩:=uU w0;obtain ⟨a1,c1,l1,rfl,s1,e1⟩:=s8 (hval 1 54 v1 rfl rfl) h1;obtain ⟨a2,n2,c2,l2,rfl,e2,s2⟩:=open_bytes (hval 2 27 v2 rfl rfl) h2;subst e2;clear hA0 hval0;refine (mR a0 b0 l1 a1 c1 a2 c2 l2 W s1 e1 s2).mono fun e W' ⟨he,bel⟩=> ?_
 subst he;exact ⟨_,rfl,_,_,_,[],_,[],hW',trodAll_mk1 (shut_bool Tryz.underlying4 _),(trodAll_cons_mk (Below.trod laidOut_yes (by kernel_rfl) (of_decide_eq_true (by kernel_rfl)) k0 bel lt0) (trodAll_cons_mk (Below.trod laidOut_yes (by kernel_rfl) (of_decide_eq_true (by kernel_rfl)) k1 bel lt1) (trodAll_cons_mk (Below.trod laidOut_yes (by kernel_rfl) (of_decide_eq_true (by kernel_rfl)) k2 bel lt2) trodAll_mk0))),rfl,bel.frame _,fun h=>by cases h⟩
theorem c2:(Rows.raftLiveRow.inPlace==Tryz.prog.inPlace 5)=true:=by kernel_rfl
theorem c3:(Rows.raftLiveRow.unfollowed==Tryz.prog.unfollowed 5)=true:=by kernel_rfl
theorem c4:(Rows.raftLiveRow.recurses==Tryz.prog.recurses 5)=true:=by kernel_rfl
theorem c5:(Rows.raftLiveRow.named==Tryz.prog.varsNamed 5)=true:=by kernel_rfl
theorem closed:joinedFacts Tryz.prog 5 Tryz.f5 Rows.raftLiveSpec Rows.raftLiveRow=true:=
 joined_of (by kernel_rfl) c2 c3 c4 c5 (by kernel_rfl) (by kernel_rfl) ⟨rfl,rfl,rfl⟩
theorem over:Rows.raftLiveRow.holds Tryz.pinned (OpenSpec.ofChange Rows.raftLiveSpec):=
 OpenClaim.holds_of_wide 5 Tryz.f5 rfl rfl rfl rfl rfl rfl rfl ⟨rfl,rfl,rfl,rfl,rfl⟩ rfl rfl rfl rfl rfl (by kernel_rfl) Tryz.func5 closed
  (of_decide_eq_true (by kernel_rfl)) (by unfold Func.isWrapper;rw [if_neg (of_decide_eq_false (by kernel_rfl))];exact ⟨rfl,rfl⟩)
  (fun os started H enc _=>lifted os started H enc)
theorem proved:Rows.RaftLiveSaid:=over
#print axioms proved
end Go.Proofs.YtogcnfhmcpkdcaaGreat.raftLive
