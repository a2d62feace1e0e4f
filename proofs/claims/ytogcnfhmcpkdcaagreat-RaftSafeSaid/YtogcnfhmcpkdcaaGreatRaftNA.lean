/-
  Contracts of News, Out, Jump, Line, follows.
  A letter that came in, and contracts of follows, said, asked.
  Contracts of asked and got.
  Contract of got.
-/
import Derived.Test.YtogcnfhmcpkdcaaGreatRaftLaw3
import Derived.Test.YtogcnfhmcpkdcaaGreatRaftM3
namespace Go.Proofs.YtogcnfhmcpkdcaaGreat
open Go.RowKit
set_option linter.unusedVariables false
set_option linter.unusedSimpArgs false
section
variable {w : World} {p : Nat} {R : PRaft} {M : RMem}
theorem RfAt.clearNews (h : RfAt w p R M) : RfAt (w.setCell ⟨p, 33, none⟩ (.slice none 0 0)) p { R with news := [] } { M with na := none, nc := 0, ns := [] } ∧ RTouch p M { M with na := none, nc := 0, ns := [] } w (w.setCell ⟨p, 33, none⟩ (.slice none 0 0)) := by
 have hoth : ∀ k, k ≠ p → (w.setCell ⟨p, 33, none⟩ (.slice none 0 0)).heap[k]? = w.heap[k]? := fun k hk => Below.heap_setCell _ _ _ k hk
 obtain ⟨a1, a2, a3, a4, -⟩ := h.apart;have hT : RTouch p M { M with na := none, nc := 0, ns := [] } w (w.setCell ⟨p, 33, none⟩ (.slice none 0 0)) := by
  refine ⟨rfl, rfl, rfl, by simp, fun k hk hno => hoth k (fun e => hno (.inl e)), fun k hk => ?_⟩;rcases hk with e | e | e | e | e
  ·exact .inl (.inl e)
  ·exact .inl (.inr (.inl e))
  ·exact .inl (.inr (.inr (.inl e)))
  ·cases e
  ·exact .inl (.inr (.inr (.inr (.inr e))))
 have h9 := heap_setCell_same w p 33 _ _ (.slice none 0 0) h.row;refine ⟨⟨h.sv.cp rfl rfl rfl, ?_, h.lnKeep hT (hoth _ a1) fun k hk => hoth k (fun e => a2 (by rw [← e]; exact hk)), h.keeps hT h.st, ⟨rfl, .inl ⟨rfl, rfl⟩⟩, by simp, rfl, own_mv9 h.ou fun g hg => hoth g (fun e => by rw [ownBlock_eq] at hg; exact a4 (by rw [← e]; exact hg)), h.oq, h.postKeep hT rfl rfl⟩, hT⟩;rw [h9, ← rcells_setTail (R := R) (R' := { R with news := [] }) (M := M) (M' := { M with na := none, nc := 0, ns := [] }) h.sv (j := 1) (x := .slice none 0 0) (by omega) (by simp [rtail]) rfl rfl rfl rfl]
 simp
theorem RfAt.clearOut (h : RfAt w p R M) : RfAt (w.setCell ⟨p, 34, none⟩ (.slice none 0 0)) p { R with out := [] } { M with oa := none, on := 0, oc := 0, ocs := [], ps := [] } ∧ RTouch p M { M with oa := none, on := 0, oc := 0, ocs := [], ps := [] } w (w.setCell ⟨p, 34, none⟩ (.slice none 0 0)) := by
 have hoth : ∀ k, k ≠ p → (w.setCell ⟨p, 34, none⟩ (.slice none 0 0)).heap[k]? = w.heap[k]? := fun k hk => Below.heap_setCell _ _ _ k hk
 obtain ⟨a1, a2, a3, a4, -⟩ := h.apart;have hT : RTouch p M { M with oa := none, on := 0, oc := 0, ocs := [], ps := [] } w (w.setCell ⟨p, 34, none⟩ (.slice none 0 0)) := by
  refine ⟨rfl, rfl, rfl, by simp, fun k hk hno => hoth k (fun e => hno (.inl e)), fun k hk => ?_⟩;rcases hk with e | e | e | e | e
  ·exact .inl (.inl e)
  ·exact .inl (.inr (.inl e))
  ·exact .inl (.inr (.inr (.inl e)))
  ·exact .inl (.inr (.inr (.inr (.inl e))))
  ·cases e
 have h9 := heap_setCell_same w p 34 _ _ (.slice none 0 0) h.row;refine ⟨⟨h.sv.cp rfl rfl rfl, ?_, h.lnKeep hT (hoth _ a1) fun k hk => hoth k (fun e => a2 (by rw [← e]; exact hk)), h.keeps hT h.st, own_mv9 h.nw fun g hg => hoth g (fun e => by rw [ownBlock_eq] at hg; exact a3 (by rw [← e]; exact hg)), fun m hm => h.keeps hT (h.nb m hm), h.nq, ⟨rfl, .inl ⟨rfl, rfl⟩⟩, rfl, ⟨rfl, rfl, by simp, by simp⟩⟩, hT⟩;rw [h9, ← rcells_setTail (R := R) (R' := { R with out := [] }) (M := M) (M' := { M with oa := none, on := 0, oc := 0, ocs := [], ps := [] }) h.sv (j := 2) (x := .slice none 0 0) (by omega) (by simp [rtail]) rfl rfl rfl rfl]
 simp
theorem RfAt.setJumped (h : RfAt w p R M) (b : Bool) : RfAt (w.setCell ⟨p, 32, none⟩ (.bool b)) p { R with jumped := b } M ∧ RTouch p M M w (w.setCell ⟨p, 32, none⟩ (.bool b)) :=
 h.set 32 (.bool b) (rcells_setTail (R' := { R with jumped := b }) h.sv (j := 0) (by omega) rfl rfl rfl rfl rfl) (h.sv.cp rfl rfl rfl) rfl rfl rfl rfl
set_option maxHeartbeats 400000 in
theorem raftNews (h : RfAt w p R M) : Calls Tryz.prog 17 #[.pointer (some ⟨p, 0, none⟩)] w fun e w' => e = .returned (.slice M.na M.ns.length M.nc) ∧ w' = w.setCell ⟨p, 33, none⟩ (.slice none 0 0) := by
 have c := h.tails.2.1;have f := h.f 33;clear h;go_enter Tryz.func17, Tryz.ntmps17
 go_wp2;go_ret;exact ⟨rfl, rfl⟩
set_option maxHeartbeats 400000 in
theorem raftOut (h : RfAt w p R M) : Calls Tryz.prog 21 #[.pointer (some ⟨p, 0, none⟩)] w fun e w' => e = .returned (.slice M.oa M.on M.oc) ∧ w' = w.setCell ⟨p, 34, none⟩ (.slice none 0 0) := by
 have c := h.tails.2.2;have f := h.f 34;clear h;go_enter Tryz.func21, Tryz.ntmps21
 go_wp2;go_ret;exact ⟨rfl, rfl⟩
def JumpTo (p : Nat) (R : PRaft) (M : RMem) (w : World) (e : Ending) (w' : World) : Prop :=
 match R.jump.2 with
 | none => e = .returned (.tuple #[.slice none 0 0, .bool false]) ∧ w' = w
 | some s => ∃ a c, e = .returned (.tuple #[.slice a s.length c, .bool true]) ∧ ByAt w' a c s ∧ ∃ M', RfAt w' p R.jump.1 M' ∧ RTouch p M M' w w'
set_option maxHeartbeats 1000000 in
theorem raftJump (h : RfAt w p R M) : Calls Tryz.prog 16 #[.pointer (some ⟨p, 0, none⟩)] w (JumpTo p R M w) := by
 cases hj : R.jumped with
 | false =>
  have c : w.cell? ⟨p, 32, none⟩ = some (.bool false) := by have h9 := h.tails.1; rw [hj] at h9; exact h9
  have HF := Hh (show R.jump = (R, none) by unfold PRaft.jump; rw [if_neg (by rw [hj]; decide)]);clear h hj;go_enter Tryz.func16, Tryz.ntmps16
  go_wp2;go_ret2;unfold JumpTo;rw [HF.out];exact ⟨rfl, rfl⟩
 | true =>
  have c : w.cell? ⟨p, 32, none⟩ = some (.bool true) := by have h9 := h.tails.1; rw [hj] at h9; exact h9
  have f := h.f 32;have HF := Hh (show R.jump = ({ R with jumped := false, news := [] }, some R.state) by unfold PRaft.jump; rw [if_pos hj]);obtain ⟨a1, b1⟩ := h.setJumped false;have c33 := h.tails.2.1;have f33 := h.f 33;have c5 : w.cell? ⟨p, 5, none⟩ = some (.slice M.sa R.state.length M.sc) := h.c rfl;obtain ⟨a2, b2⟩ := a1.clearNews;obtain ⟨V, hV⟩ : ∃ V, V = (w.setCell ⟨p, 32, none⟩ (.bool false)).setCell ⟨p, 33, none⟩ (.slice none 0 0) := ⟨_, rfl⟩
  rw [← hV] at a2 b2;have HA := Hh a2;have HB := Hh (b1.trans b2);have HV := Hh hV;clear a1 b1 a2 b2 h hj hV;go_enter Tryz.func16, Tryz.ntmps16
  go_wp2_with fail;rw [← HV.out];clear c f c33 f33;refine (cloneBy R.state M.sa M.sc _ HA.out.st.1).mono ?_;rintro e w2 ⟨a2, c2, rfl, hcl2, hb2⟩;have HCL := Hh hcl2;have HR2 := Hh (HA.out.below hb2);have HT2 := Hh (HB.out.andBelow (hb2.mono HB.out.size));clear hcl2 hb2 c5;go_wp2;go_ret2;unfold JumpTo;rw [HF.out];exact ⟨a2, c2, rfl, HCL.out, _, HR2.out, HT2.out⟩
set_option maxHeartbeats 400000 in
theorem raftLine (hg : R.line.Good) (h : RfAt w p R M) : Calls Tryz.prog 29 #[.pointer (some ⟨p, 0, none⟩)] w fun e w' => ∃ q la lc, e = .returned (.pointer (some ⟨q, 0, none⟩)) ∧ LnAt w' w.heap.size q R.line la lc M.ms ∧ Below w.heap.size w w' ∧ w.heap.size ≤ q := by
 have c4 : w.cell? ⟨p, 4, none⟩ = some (.pointer (some ⟨M.lb, 0, none⟩)) := h.c rfl;have HL := Hh h.ln;clear h;go_enter Tryz.func29, Tryz.ntmps29
 go_wp2_with fail;refine (lineCopy 0 M.lb R.line hg M.la M.lc M.ms _ HL.out).mono ?_;rintro e w1 ⟨q, la, lc, rfl, h1, h2, h3⟩;have H1 := Hh h1;have H2 := Hh h2;have H3 := Hh h3;clear h1 h2 h3;go_wp2;go_ret;exact ⟨q, la, lc, rfl, H1.out, H2.out, H3.out⟩
end
end Go.Proofs.YtogcnfhmcpkdcaaGreat
namespace Go.Proofs.YtogcnfhmcpkdcaaGreat
open Go.RowKit
set_option linter.unusedVariables false
set_option linter.unusedSimpArgs false
section
variable {w w' : World} {p : Nat} {R : PRaft} {M M' : RMem}
theorem SlAt.touch {size : Nat} {a : Option Addr} {n c : Nat} {xs : List Value} (h : SlAt w w.heap.size size a n c xs) (ht : RTouch p M M' w w') (hf : 0 < xs.length → ∀ ad, a = some ad → ¬ M.own p ad.block) : SlAt w' w'.heap.size size a n c xs :=
 ⟨h.hlen, h.hle, h.hmax, h.hnil, fun hp => let ⟨b, o, e, hl, hc⟩ := h.hat hp; ⟨b, o, e, Nat.lt_of_lt_of_le hl ht.size, fun i hi => (ht.cell hl (hf hp _ e)).trans (hc i hi)⟩⟩
theorem BsAt.touch {a : Option Addr} {n c : Nat} {l : List UInt8} (h : BsAt w w.heap.size a n c l) (ht : RTouch p M M' w w') (hf : 0 < n → ∀ ad, a = some ad → ¬ M.own p ad.block) : BsAt w' w'.heap.size a n c l :=
 ⟨h.hlen, h.hle, h.hmax, h.hnil, h.hbig, fun hp => let ⟨b, o, e, hl, hc⟩ := h.hat hp; ⟨b, o, e, Nat.lt_of_lt_of_le hl ht.size, fun i hi => (ht.cell hl (hf hp _ e)).trans (hc i hi)⟩⟩
structure LetFar (w : World) (p : Nat) (M : RMem) (x : PLet) (ia : Option Addr) (ic : Nat) (ms : List MItem) (ba : Option Addr) (bc : Nat) : Prop where
 la : LetAt w w.heap.size x ia ic ms ba bc
 fi : 0 < ms.length → ∀ ad, ia = some ad → ¬ M.own p ad.block
 fm : ∀ m ∈ ms, 0 < m.n → ∀ ad, m.a = some ad → ¬ M.own p ad.block
 fb : 0 < x.b.length → ∀ ad, ba = some ad → ¬ M.own p ad.block
variable {x : PLet} {ia : Option Addr} {ic : Nat} {ms : List MItem} {ba : Option Addr} {bc : Nat}
theorem LetFar.touch (h : LetFar w p M x ia ic ms ba bc) (ht : RTouch p M M' w w') : LetFar w' p M' x ia ic ms ba bc := by
 have hcl : (cellsM ms).length = ms.length * 2 := h.la.its.sl.hlen;have hk : ∀ k, k < w.heap.size → ¬ M.own p k → ¬ M'.own p k := fun k hk hn ho => by
  rcases ht.fresh k ho with h9 | h9
  ·exact hn h9
  ·omega
 refine ⟨⟨⟨h.la.its.sl.touch ht fun hp => h.fi (by omega), fun m hm => (h.la.its.bs m hm).touch ht (h.fm m hm)⟩, h.la.eq, h.la.b.touch ht h.fb⟩, fun hp ad e => ?_, fun m hm hp ad e => ?_, fun hp ad e => ?_⟩
 ·obtain ⟨b, o, e2, hl, -⟩ := h.la.its.sl.hat (by omega);rw [e] at e2; injection e2 with e2; subst e2
  exact hk _ hl (h.fi hp _ e)
 ·obtain ⟨b, o, e2, hl, -⟩ := (h.la.its.bs m hm).hat hp;rw [e] at e2; injection e2 with e2; subst e2
  exact hk _ hl (h.fm m hm hp _ e)
 ·obtain ⟨b, o, e2, hl, -⟩ := h.la.b.hat hp;rw [e] at e2; injection e2 with e2; subst e2
  exact hk _ hl (h.fb hp _ e)
theorem LetFar.below (h : LetFar w p M x ia ic ms ba bc) (hb : Below w.heap.size w w') : LetFar w' p M x ia ic ms ba bc := h.touch (.ofBelow hb)
theorem letBox (w : World) (x : PLet) (ia : Option Addr) (n ic : Nat) (ba : Option Addr) (bc : Nat) : ∃ V, V = w.alloc (.cells (lcell x ia n ic ba bc) 32) ∧ Below w.heap.size w V ∧ V.heap.size = w.heap.size + 1 ∧ V.heap[w.heap.size]? = some (.cells (lcell x ia n ic ba bc) 32 (0, 0)) :=
 ⟨_, rfl, (Below.refl _ _).alloc (Nat.le_refl _) _, by simp, heap_alloc_new w _⟩
set_option maxRecDepth 100000 in
set_option maxHeartbeats 1000000 in
theorem raftFollows (p : Nat) (R : PRaft) (M : RMem) (f : Int) (x : PLet) (ia : Option Addr) (n ic : Nat) (ba : Option Addr) (bc : Nat) (hn : R.out.length ≤ 1000000000) (w : World) (h : RfAt w p R M) :
  Calls Tryz.prog 81 #[.pointer (some ⟨p, 0, none⟩), .int .i64 f, .agg (lcell x ia n ic ba bc)] w fun e w' => e = .returned (.bool (R.follows f x).2) ∧ ∃ M', RfAt w' p (R.follows f x).1 M' ∧ RTouch p M M' w w' := by
 obtain ⟨V, hV, hbV, hsV, hrV⟩ := letBox w x ia n ic ba bc;obtain ⟨l0, l1, l2, -⟩ := letCells hrV;have hr := h.below hbV;have c2 : V.cell? ⟨p, 2, none⟩ = some (.int .i64 R.bt) := hr.c rfl;have c5 : V.cell? ⟨p, 6, none⟩ = some (.int .i64 R.role) := hr.c rfl;have HR := Hh hr;have HB := Hh hbV;have HV := Hh hV;clear hr hbV hrV hV h hsV;by_cases h1 : x.t < R.bt
 ·have t1 : decide (x.t < R.bt) = true := decide_eq_true h1;have HF := Hh (show R.follows f x = (R.post f ⟨4, 0, 0, 0, x.a, false, [], []⟩, false) by unfold PRaft.follows; rw [if_pos h1]);clear h1;go_enter Tryz.func81, Tryz.ntmps81
  go_wp2_with fail;rw [← HV.out];go_quiet (fail)
  go_wp2_with fail;refine (raftPost0 p R M f ⟨4, 0, 0, 0, x.a, false, [], []⟩ rfl rfl hn _ (HR.out.drawn rfl)).mono ?_;rintro e w2 ⟨rfl, M', hr2, ht2⟩;have HR2 := Hh hr2;have HT2 := Hh ((RTouch.ofBelow HB.out).trans (RTouch.trans (.ofBelow (below_drewN V _)) ht2));clear hr2 ht2;go_wp2;go_ret;rw [HF.out];exact ⟨rfl, M', HR2.out, HT2.out⟩
 have t1 : decide (x.t < R.bt) = false := decide_eq_false h1;by_cases h2 : R.role = 2
 ·have t2 : (R.role == 2) = true := by simpa using h2
  have HF := Hh (show R.follows f x = (R, false) by unfold PRaft.follows; rw [if_neg h1, if_pos h2]);clear h1 h2;go_enter Tryz.func81, Tryz.ntmps81
  go_wp2_with fail;rw [← HV.out];go_quiet (fail)
  go_wp2;go_ret;rw [HF.out];exact ⟨rfl, M, HR.out.drawn rfl, (RTouch.ofBelow HB.out).trans (.ofBelow (below_drewN V _))⟩
 have t2 : (R.role == 2) = false := by simpa using h2
 have HF := Hh (show R.follows f x = ({ R with role := 0, lead := f, ticks := 0 }, true) by unfold PRaft.follows; rw [if_neg h1, if_neg h2]);clear h1 h2;go_enter Tryz.func81, Tryz.ntmps81
 go_wp2_with fail;rw [← HV.out];go_quiet (fail)
 have c7 : V.cell? ⟨p, 7, none⟩ = some (.int .i64 R.lead) := HR.out.c rfl;have c10 : V.cell? ⟨p, 10, none⟩ = some (.int .i64 R.ticks) := HR.out.c rfl;have f6 := HR.out.f 6;have f7 := HR.out.f 7;have f10 := HR.out.f 10;go_wp2;go_ret;rw [HF.out];obtain ⟨a1, b1⟩ := (HR.out.drawn (m := nq) rfl).setRole 0;obtain ⟨a2, b2⟩ := a1.setLead f;obtain ⟨a3, b3⟩ := a2.setTicks 0;exact ⟨rfl, M, a3, (RTouch.ofBelow HB.out).trans ((RTouch.ofBelow (below_drewN V nq)).trans (b1.trans (b2.trans b3)))⟩
set_option maxRecDepth 100000 in
set_option maxHeartbeats 1000000 in
theorem raftSaid (p : Nat) (R : PRaft) (M : RMem) (f : Nat) (hf : f < 7) (x : PLet) (ia : Option Addr) (n ic : Nat) (ba : Option Addr) (bc : Nat) (hn1 : 1 ≤ R.n) (hn7 : R.n ≤ 7) (hm0 : 0 ≤ R.me) (hmn : R.me < R.n) (hg : R.line.Good) (hv : ∀ x ∈ R.votes, 0 ≤ x ∧ x ≤ 1) (hnw : R.news.length ≤ 999990000) (ho : R.out.length ≤ 999999000) (w : World) (h : RfAt w p R M) :
  Calls Tryz.prog 46 #[.pointer (some ⟨p, 0, none⟩), .int .i64 f, .agg (lcell x ia n ic ba bc)] w fun e w' => e = .returned (.tuple #[]) ∧ ∃ M', RfAt w' p (R.said f x) M' ∧ RTouch p M M' w w' := by
 obtain ⟨V, hV, hbV, hsV, hrV⟩ := letBox w x ia n ic ba bc;obtain ⟨l0, l1, l2, l3, l4, l5, -⟩ := letCells hrV;have hr := h.below hbV;have c2 : V.cell? ⟨p, 2, none⟩ = some (.int .i64 R.bt) := hr.c rfl;have c6 : V.cell? ⟨p, 6, none⟩ = some (.int .i64 R.role) := hr.c rfl;have HR := Hh hr;have HB := Hh hbV;have HV := Hh hV;have HG := Hh hg;have HVS := Hh hv;clear hr hbV hrV hV h hsV hg hv l0 l2 l3 l4;have no : ∀ m, (¬ (R.role = 1 ∧ x.t = R.bt ∧ x.y = true)) → ∃ M', RfAt (V.drewN m) p (R.said f x) M' ∧ RTouch p M M' w (V.drewN m) := fun m h9 =>
  ⟨M, by unfold PRaft.said; rw [if_neg h9]; exact HR.out.drawn rfl, (RTouch.ofBelow HB.out).trans (.ofBelow (below_drewN V m))⟩
 have HNO := Hh no;clear no;by_cases h1 : ¬ R.role = 1
 ·have t1 : (R.role == 1) = false := by simpa using h1
  have HF := Hh (show ¬ (R.role = 1 ∧ x.t = R.bt ∧ x.y = true) from fun h9 => h1 h9.1);clear h1;go_enter Tryz.func46, Tryz.ntmps46
  go_wp2_with fail;rw [← HV.out];go_quiet (fail)
  go_wp2;go_end0;exact ⟨rfl, HNO.out _ HF.out⟩
 have h1 : R.role = 1 := Decidable.not_not.1 h1;have t1 : (R.role == 1) = true := by simpa using h1
 by_cases h2 : ¬ x.t = R.bt
 ·have t2 : (x.t == R.bt) = false := by simpa using h2
  have HF := Hh (show ¬ (R.role = 1 ∧ x.t = R.bt ∧ x.y = true) from fun h9 => h2 h9.2.1);clear h1 h2;go_enter Tryz.func46, Tryz.ntmps46
  go_wp2_with fail;rw [← HV.out];go_quiet (fail)
  go_wp2;go_end0;exact ⟨rfl, HNO.out _ HF.out⟩
 have h2 : x.t = R.bt := Decidable.not_not.1 h2;have t2 : (x.t == R.bt) = true := by simpa using h2
 cases hy : x.y with
 | false =>
  rw [hy] at l5;have HF := Hh (show ¬ (R.role = 1 ∧ x.t = R.bt ∧ x.y = true) from fun h9 => by rw [hy] at h9; cases h9.2.2);clear h1 h2 hy;go_enter Tryz.func46, Tryz.ntmps46
  go_wp2_with fail;rw [← HV.out];go_quiet (fail)
  go_wp2;go_end0;exact ⟨rfl, HNO.out _ HF.out⟩
 | true =>
  rw [hy] at l5;have HF := Hh (show R.said f x = R.count f by unfold PRaft.said; rw [if_pos ⟨h1, h2, hy⟩]);clear h1 h2 hy;go_enter Tryz.func46, Tryz.ntmps46
  go_wp2_with fail;rw [← HV.out];go_quiet (fail)
  go_wp2_with fail;refine (raftCount p R M f hf hn1 hn7 hm0 hmn HG.out HVS.out hnw ho _ (HR.out.drawn rfl)).mono ?_;rintro e w2 ⟨rfl, M', hr2, ht2⟩;have HR2 := Hh hr2;have HT2 := Hh ((RTouch.ofBelow HB.out).trans (RTouch.trans (.ofBelow (below_drewN V _)) ht2));clear hr2 ht2;go_wp2;go_end0;rw [HF.out];exact ⟨rfl, M', HR2.out, HT2.out⟩
end
end Go.Proofs.YtogcnfhmcpkdcaaGreat
namespace Go.Proofs.YtogcnfhmcpkdcaaGreat
open Go.RowKit
set_option linter.unusedVariables false
set_option linter.unusedSimpArgs false
section
theorem infoBal : (Tryz.prog.info? 80).map (·.size) = some 2 := by kernel_rfl
theorem wayN {G : World → Nat → Prop} {P : Prop} (F : World → Nat → Prop) (main : (∀ U n, F U n → G U n) → P) (key : ∀ U n, F U n → G U n) : P := main key
structure AskS (p g : Nat) (bt bf : Int) (x : PLet) (W : World) : Prop where
 c2 : W.cell? ⟨p, 2, none⟩ = some (.int .i64 bt)
 c3 : W.cell? ⟨p, 3, none⟩ = some (.int .i64 bf)
 l1 : W.cell? ⟨g, 1, none⟩ = some (.int .i64 x.t)
 l2 : W.cell? ⟨g, 2, none⟩ = some (.int .i64 x.a)
 l3 : W.cell? ⟨g, 3, none⟩ = some (.int .i64 x.u)
theorem RfAt.askS {w : World} {p g : Nat} {R : PRaft} {M : RMem} (h : RfAt w p R M) {x : PLet} {ia : Option Addr} {n ic : Nat} {ba : Option Addr} {bc : Nat} (hb : w.heap[g]? = some (.cells (lcell x ia n ic ba bc) 32 (0, 0))) : AskS p g R.bt R.bf x w :=
 let ⟨_, l1, l2, l3, _⟩ := letCells hb
 ⟨h.c rfl, h.c rfl, l1, l2, l3⟩
structure AskW (p g : Nat) (R : PRaft) (M : RMem) (bx : Array Value) (B : Nat) (W U : World) (n : Nat) : Prop where
 rf : RfAt U p R M
 lt : U.heap[g]? = some (.cells bx 32 (0, 0))
 bb : U.heap[n]? = some (.cells #[.int .i64 0, .int .i64 0] 80 (0, 0))
 bel : Below B W U
 le : B ≤ n
set_option maxRecDepth 100000 in
set_option maxHeartbeats 2000000 in
theorem raftAsked (p : Nat) (R : PRaft) (M : RMem) (f : Int) (x : PLet) (ia : Option Addr) (n ic : Nat) (ba : Option Addr) (bc : Nat) (hb0 : 0 ≤ R.bt) (hb1 : R.bt ≤ 1099511627776) (hf0 : -1 ≤ R.bf) (hf1 : R.bf ≤ 6) (hg : R.line.Good) (hnw : R.news.length ≤ 1000000000) (ho : R.out.length ≤ 1000000000) (w : World) (h : RfAt w p R M) :
  Calls Tryz.prog 45 #[.pointer (some ⟨p, 0, none⟩), .int .i64 f, .agg (lcell x ia n ic ba bc)] w fun e w' => e = .returned (.tuple #[]) ∧ ∃ M', RfAt w' p (R.asked f x) M' ∧ RTouch p M M' w w' := by
 obtain ⟨V, hV, hbV, hsV, hrV⟩ := letBox w x ia n ic ba bc;have hr := h.below hbV;have c4 : (w.alloc (.cells (lcell x ia n ic ba bc) 32)).cell? ⟨p, 4, none⟩ = some (.pointer (some ⟨M.lb, 0, none⟩)) := by rw [← hV]; exact hr.c rfl
 obtain ⟨L, hL⟩ : ∃ L, R.line.last = L := ⟨_, rfl⟩
 obtain ⟨T, hT⟩ : ∃ T, (tmIs R.line L).1 = T := ⟨_, rfl⟩
 obtain ⟨an, han⟩ : ∃ an, asNew x.a x.u L T = an := ⟨_, rfl⟩
 obtain ⟨yes, hyes⟩ : ∃ yes, granted R.bt R.bf f x.t an = yes := ⟨_, rfl⟩
 obtain ⟨gF, hgF⟩ : ∃ gF, grantF R.bt R.bf f x.t an = gF := ⟨_, rfl⟩
 have hgT := grantT_eq R.bt R.bf f x.t an;have HASK := Hh (show R.asked f x = (if R.bt ≠ R.bt ∨ gF ≠ R.bf then ({ (if yes = true then { R with ticks := 0 } else R) with bt := R.bt, bf := gF } : PRaft).noteBallot else if yes = true then { R with ticks := 0 } else R).post f ⟨2, 0, 0, 0, 0, yes, [], []⟩ by
  unfold PRaft.asked;simp only [hL, hT, han, hyes, hgT, hgF])
 have HF0 := Hh (show -1 ≤ gF ∧ gF ≤ 6 ∧ (yes = false → gF = R.bf) by
  rw [← hgF, ← hyes];unfold grantF;split
  ·rename_i h9; have := isWho_6 (granted_who h9); exact ⟨by omega, by omega, fun h8 => by rw [h9] at h8; cases h8⟩
  ·exact ⟨hf0, hf1, fun _ => rfl⟩)
 have HL := Hh (show R.line.last = L ∧ (tmIs R.line L).1 = T from ⟨hL, hT⟩);have HAN := Hh han;have HYES := Hh hyes;have HGF := Hh hgF;have HGT := Hh hgT;have HR := Hh hr;have HB := Hh hbV;have HV := Hh hV;have HG := Hh hg;have HBX := Hh hrV;have HNB := Hh (h.notNew (Nat.le_refl w.heap.size));clear hr hbV hV h hg hL hT han hyes hgF hgT hrV;go_enter Tryz.func45, Tryz.ntmps45
 go_wp2_with fail;rw [← HV.out];refine (lineLast 0 M.lb R.line HG.out M.la M.lc M.ms _ HR.out.ln).mono ?_;rintro e w1 ⟨rfl, m1, hm1⟩;rw [HL.out.1, HL.out.2];have HR1 := Hh (HR.out.drawn hm1);have HB1 := Hh (show Below V.heap.size V w1 by rw [hm1]; exact below_drewN V m1);have hs1 : V.heap.size ≤ w1.heap.size := HB1.out.size;have HBX1 := Hh ((HB1.out.block w.heap.size (by omega)).trans HBX.out);clear hm1 c4;go_wp2_with fail;refine OpG (S := AskS p w.heap.size R.bt R.bf x) ?_;intro w2 hdr;have HR2 := Hh (HR1.out.below hdr);have HBX2 := Hh ((hdr.block w.heap.size (by omega)).trans HBX1.out);have hs2 : w1.heap.size ≤ w2.heap.size := hdr.size;have HB2 := Hh (HB1.out.trans (hdr.mono HB1.out.size));have hS0 := HR2.out.askS HBX2.out;refine hT 0 19 hS0 ?_;refine hT 4 23 hS0 ?_;refine hT 5 24 hS0 ?_;refine hT 7 26 hS0 ?_;refine hT 9 28 hS0 ?_;refine hT 11 30 hS0 ?_;refine hT 12 31 hS0 ?_;refine hT 1 20 hS0 ?_;refine hT 6 25 hS0 ?_;refine hT 8 27 hS0 ?_;refine hT 10 29 hS0 ?_;refine hT 2 21 hS0 ?_;refine hW 3 22 (.agg #[.int .i64 R.bt, .int .i64 R.bf]) hS0 ?_;have HS0 := Hh hS0;have HDR := Hh (show Below w1.heap.size w1 w2 from hdr);clear hS0 hdr;obtain ⟨B0, hB0⟩ : ∃ B0, B0 = w1.heap.size := ⟨_, rfl⟩
 have HBZ := Hh hB0;clear hB0;apply wayN (fun U k => AskW p w.heap.size R M (lcell x ia n ic ba bc) B0 w1 U k);intro hway;refine Op2 13 18 ?_ ?_
 ·go_simp;refine (voteAsNew_calls x.a x.u L T _).mono ?_;rintro e w3 ⟨rfl, hb3⟩;rw [HAN.out];have HR3 := Hh (HR2.out.below hb3);have HBX3 := Hh ((hb3.block w.heap.size (by omega)).trans HBX2.out);have HB3 := Hh (HDR.out.trans (hb3.mono HDR.out.size));have hs3 : w2.heap.size ≤ w3.heap.size := hb3.size;have hS3 := HR3.out.askS HBX3.out;refine ⟨hS3, ?_⟩;clear hb3;refine Op2 14 18 ?_ ?_
  ·clear hS3;go_simp;refine (voteGrant_calls R.bt R.bf f x.t an _).mono ?_;rintro e w4 ⟨rfl, hb4⟩;rw [HGT.out, HGF.out, HYES.out];have HR4 := Hh (HR3.out.below hb4);have HBX4 := Hh ((hb4.block w.heap.size (by omega)).trans HBX3.out);have HB4 := Hh (HB3.out.trans (hb4.mono HB3.out.size));have hs4 : w3.heap.size ≤ w4.heap.size := hb4.size;have hS4 := HR4.out.askS HBX4.out;refine ⟨hS4, ?_⟩;clear hb4;refine hT 15 18 hS4 ?_;refine hV 16 34 (.agg #[.int .i64 R.bt, .int .i64 gF]) hS4 ?_;refine hV 17 35 (.bool yes) hS4 ?_;clear hS4;refine Op1 18 ?_;go_simp;obtain ⟨U, hU⟩ : ∃ U, U = w4.alloc (.cells #[.int .i64 0, .int .i64 0] 80) := ⟨_, rfl⟩
   rw [← hU];have hbU : Below w4.heap.size w4 U := by rw [hU]; exact (Below.refl _ _).alloc (Nat.le_refl _) _
   have hw : AskW p w.heap.size R M (lcell x ia n ic ba bc) B0 w1 U w4.heap.size := ⟨HR4.out.below hbU, (hbU.block w.heap.size (by omega)).trans HBX4.out, by rw [hU]; exact heap_alloc_new w4 _, by rw [HBZ.out]; exact HB4.out.trans (hbU.mono HB4.out.size), by rw [HBZ.out]; omega⟩
   refine ⟨hw.rf.askS hw.lt, ?_⟩;clear hbU hU;generalize w4.heap.size = k at hw ⊢;exact hway U k hw
  ·clear hS3;go_simp;obtain ⟨U3, hU3⟩ : ∃ U3, U3 = w3.alloc (.cells #[.int .i64 0, .int .i64 0] 80) := ⟨_, rfl⟩
   rw [← hU3];have hbU : Below w3.heap.size w3 U3 := by rw [hU3]; exact (Below.refl _ _).alloc (Nat.le_refl _) _
   have hbb : U3.heap[w3.heap.size]? = some (.cells #[.int .i64 0, .int .i64 0] 80 (0, 0)) := by rw [hU3]; exact heap_alloc_new w3 _
   have hlt := (Array.getElem?_eq_some_iff.1 hbb).1;have HBB := Hh hbb;have HR4 := Hh (HR3.out.below hbU);have HBX4 := Hh ((hbU.block w.heap.size (by omega)).trans HBX3.out);have HB4 := Hh (HB3.out.trans (hbU.mono HB3.out.size));have hs4 : w3.heap.size ≤ U3.heap.size := hbU.size;clear hbU hU3 hbb;refine ⟨HR4.out.askS HBX4.out, ?_⟩;refine Op1 14 ?_;go_simp;refine (voteGrant_calls R.bt R.bf f x.t an _).mono ?_;rintro e w4 ⟨rfl, hb4⟩;rw [HGT.out, HGF.out, HYES.out];have hw : AskW p w.heap.size R M (lcell x ia n ic ba bc) B0 w1 w4 w3.heap.size := ⟨HR4.out.below hb4, (hb4.block w.heap.size (by omega)).trans HBX4.out, (hb4.block _ hlt).trans HBB.out, by rw [HBZ.out]; exact HB4.out.trans (hb4.mono HB4.out.size), by rw [HBZ.out]; omega⟩
   have hS4 := hw.rf.askS hw.lt;refine ⟨hS4, ?_⟩;clear hb4;refine hT 15 18 hS4 ?_;refine hV 16 34 (.agg #[.int .i64 R.bt, .int .i64 gF]) hS4 ?_;refine hV 17 35 (.bool yes) hS4 ?_;clear hS4;generalize w3.heap.size = k at hw ⊢;exact hway w4 k hw
 ·go_simp;obtain ⟨U2, hU2⟩ : ∃ U2, U2 = w2.alloc (.cells #[.int .i64 0, .int .i64 0] 80) := ⟨_, rfl⟩
  rw [← hU2];have hbU : Below w2.heap.size w2 U2 := by rw [hU2]; exact (Below.refl _ _).alloc (Nat.le_refl _) _
  have hbb : U2.heap[w2.heap.size]? = some (.cells #[.int .i64 0, .int .i64 0] 80 (0, 0)) := by rw [hU2]; exact heap_alloc_new w2 _
  have hlt := (Array.getElem?_eq_some_iff.1 hbb).1;have HBB := Hh hbb;have HR3 := Hh (HR2.out.below hbU);have HBX3 := Hh ((hbU.block w.heap.size (by omega)).trans HBX2.out);have HB3 := Hh (HDR.out.trans (hbU.mono HDR.out.size));have hs3 : w2.heap.size ≤ U2.heap.size := hbU.size;clear hbU hU2 hbb;refine ⟨HR3.out.askS HBX3.out, ?_⟩;refine Op1 13 ?_;go_simp;refine (voteAsNew_calls x.a x.u L T _).mono ?_;rintro e w3 ⟨rfl, hb3⟩;rw [HAN.out];have HR4 := Hh (HR3.out.below hb3);have HBX4 := Hh ((hb3.block w.heap.size (by omega)).trans HBX3.out);have HB4 := Hh (HB3.out.trans (hb3.mono HB3.out.size));have HBB3 := Hh ((hb3.block _ hlt).trans HBB.out);have hs4 : U2.heap.size ≤ w3.heap.size := hb3.size;clear hb3;refine ⟨HR4.out.askS HBX4.out, ?_⟩;refine Op1 14 ?_;go_simp;refine (voteGrant_calls R.bt R.bf f x.t an _).mono ?_;rintro e w4 ⟨rfl, hb4⟩;rw [HGT.out, HGF.out, HYES.out];have hw : AskW p w.heap.size R M (lcell x ia n ic ba bc) B0 w1 w4 w2.heap.size := ⟨HR4.out.below hb4, (hb4.block w.heap.size (by omega)).trans HBX4.out, (hb4.block _ (by omega)).trans HBB3.out, by rw [HBZ.out]; exact HB4.out.trans (hb4.mono HB4.out.size), by rw [HBZ.out]; omega⟩
  have hS4 := hw.rf.askS hw.lt;refine ⟨hS4, ?_⟩;clear hb4;refine hT 15 18 hS4 ?_;refine hV 16 34 (.agg #[.int .i64 R.bt, .int .i64 gF]) hS4 ?_;refine hV 17 35 (.bool yes) hS4 ?_;clear hS4;generalize w2.heap.size = k at hw ⊢;exact hway w4 k hw
 intro U k hw;have HRU := Hh hw.rf;have HBXU := Hh hw.lt;have HBB := Hh hw.bb;have HBU := Hh (show Below w1.heap.size w1 U by rw [← HBZ.out]; exact hw.bel);have hkB : w1.heap.size ≤ k := by rw [← HBZ.out]; exact hw.le
 clear hw;have hkU : k < U.heap.size := (Array.getElem?_eq_some_iff.1 HBB.out).1;refine Op1 19 ?_;refine wp_store_row 80 (.tmp 8) (.tmp 34) rfl k #[.int .i64 R.bt, .int .i64 gF] rfl rfl 80 _ HBB.out infoBal rfl (by simp [Value.oneCell']) ?_;obtain ⟨X, hX⟩ : ∃ X, X = U.setRow k #[.int .i64 R.bt, .int .i64 gF] := ⟨_, rfl⟩
 rw [← hX];have hoX : ∀ j, j ≠ k → X.heap[j]? = U.heap[j]? := fun j hj => by rw [hX]; exact setRow_other _ _ _ _ hj
 have hsX : X.heap.size = U.heap.size := by rw [hX]; simp
 have hbX : Below w1.heap.size U X := by rw [hX]; exact below_setRow U _ hkB
 have hrX := setRow_heap U k _ #[.int .i64 R.bt, .int .i64 gF] 80 _ HBB.out;rw [← hX] at hrX;have hnot : ¬ M.own p k := HR1.out.notNew hkB;have HRX := Hh (HRU.out.far hnot HBB.out (by decide) (fun m hm e => by have := (HR1.out.po.m m hm).block e; omega) hoX (by omega));have HBXX := Hh ((hoX w.heap.size (by omega)).trans HBXU.out);have HROWX := Hh hrX;have HTX := Hh (show RTouch p M M w X from (RTouch.ofBelow HB.out).trans ((RTouch.ofBelow HB1.out).trans (.ofBelow (HBU.out.trans hbX))));have hS := HRX.out.askS HBXX.out;refine ⟨hS, ?_⟩;refine hT 20 9 hS ?_;refine OpE ?_;have hkX : k < X.heap.size := by omega
 clear hS hX hoX hsX hbX hrX;have b0 := cell_of_row X k 0 _ _ _ HROWX.out;have b1 := cell_of_row X k 1 _ _ _ HROWX.out;have c2 : X.cell? ⟨p, 2, none⟩ = some (.int .i64 R.bt) := HRX.out.c rfl;have c3 : X.cell? ⟨p, 3, none⟩ = some (.int .i64 R.bf) := HRX.out.c rfl;cases yes with
 | false =>
  have hgf : gF = R.bf := HF0.out.2.2 rfl;subst hgf;go_wp2_with fail;go_quiet (fail)
  clear b0 b1 c2 c3;go_wp2_with fail;refine (raftPost0 p R M f ⟨2, 0, 0, 0, 0, false, [], []⟩ rfl rfl ho _ (HRX.out.drawn rfl)).mono ?_;rintro e w9 ⟨rfl, M9, hr9, ht9⟩;have HR9 := Hh hr9;have HT9 := Hh (HTX.out.trans (RTouch.trans (.ofBelow (below_drewN X _)) ht9));clear hr9 ht9;go_wp2;go_end0;refine ⟨rfl, M9, ?_, HT9.out⟩;rw [HASK.out, if_neg (by simp)];exact HR9.out
 | true =>
  have c10 : X.cell? ⟨p, 10, none⟩ = some (.int .i64 R.ticks) := HRX.out.c rfl;have f10 := HRX.out.f 10;obtain ⟨Y, hY⟩ : ∃ Y, Y = X.setCell ⟨p, 10, none⟩ (.int .i64 0) := ⟨_, rfl⟩
  obtain ⟨a1, e1⟩ := HRX.out.setTicks 0;rw [show iz 0 = .int .i64 0 from rfl, ← hY] at a1 e1;have HRY := Hh a1;have HTY := Hh (HTX.out.trans e1);have b0' : Y.cell? ⟨k, 0, none⟩ = some (.int .i64 R.bt) := (e1.cell (by omega) hnot).trans b0;have b1' : Y.cell? ⟨k, 1, none⟩ = some (.int .i64 gF) := (e1.cell (by omega) hnot).trans b1;have c2' : Y.cell? ⟨p, 2, none⟩ = some (.int .i64 R.bt) := HRY.out.c rfl;have c3' : Y.cell? ⟨p, 3, none⟩ = some (.int .i64 R.bf) := HRY.out.c rfl;have f2 := HRY.out.f 2;have f3 := HRY.out.f 3;have HY := Hh hY;clear b0 b1 c2 c3 a1 e1 hY;by_cases hgf : gF = R.bf
  ·subst hgf;go_wp2_with fail;rw [← HY.out];clear c10 f10;go_quiet (fail)
   clear b0' b1' c2' c3';go_wp2_with fail;refine (raftPost0 p { R with ticks := 0 } M f ⟨2, 0, 0, 0, 0, true, [], []⟩ rfl rfl ho _ (HRY.out.drawn rfl)).mono ?_;rintro e w9 ⟨rfl, M9, hr9, ht9⟩;have HR9 := Hh hr9;have HT9 := Hh (HTY.out.trans (RTouch.trans (.ofBelow (below_drewN Y _)) ht9));clear hr9 ht9;go_wp2;go_end0;refine ⟨rfl, M9, ?_, HT9.out⟩;rw [HASK.out, if_neg (by simp)];exact HR9.out
  ·have t1 : (gF == R.bf) = false := by simpa using hgf
   have t2 : (gF != R.bf) = true := by simpa using hgf
   have HNE := Hh hgf;clear hgf;go_wp2_with fail;rw [← HY.out];clear c10 f10;go_quiet (fail)
   go_wp2_with fail;have HD := HRY.out.drawn (m := nq) rfl;obtain ⟨a2, e2⟩ := HD.setBallot R.bt gF;obtain ⟨Z, hZ⟩ : ∃ Z, Z = ((Y.drewN nq).setCell ⟨p, 2, none⟩ (iz R.bt)).setCell ⟨p, 3, none⟩ (iz gF) := ⟨_, rfl⟩
   rw [← hZ] at a2 e2
   (refine (show Calls Tryz.prog 44 #[.pointer (some ⟨p, 0, none⟩)] (((Y.drewN nq).setCell ⟨p, 2, none⟩ (iz R.bt)).setCell ⟨p, 3, none⟩ (iz gF)) _ from ?_))
   rw [← hZ];have HTZ := Hh (HTY.out.trans ((RTouch.ofBelow (below_drewN Y nq)).trans e2));clear b0' b1' c2' c3' f2 f3 hZ e2 HD;obtain ⟨R2, hR2⟩ : ∃ R2 : PRaft, R2 = { R with ticks := 0, bt := R.bt, bf := gF } := ⟨_, rfl⟩
   have HRZ := Hh (show RfAt Z p R2 M by rw [hR2]; exact a2);have HR2 := Hh hR2;have HF2 := Hh (show R2.bt = R.bt ∧ R2.bf = gF ∧ R2.news = R.news ∧ R2.out = R.out by rw [hR2]; exact ⟨rfl, rfl, rfl, rfl⟩);clear a2 hR2;refine (raftNoteBallot p R2 M (by rw [HF2.out.1]; exact hb0) (by rw [HF2.out.1]; exact hb1) (by rw [HF2.out.2.1]; exact HF0.out.1) (by rw [HF2.out.2.1]; exact HF0.out.2.1) (by rw [HF2.out.2.2.1]; exact hnw) _ HRZ.out).mono ?_;rintro e w8 ⟨rfl, M8, hr8, ht8⟩;have HR8 := Hh hr8;have HT8 := Hh (HTZ.out.trans ht8);clear hr8 ht8;go_wp2_with fail;refine (raftPost0 p R2.noteBallot M8 f ⟨2, 0, 0, 0, 0, true, [], []⟩ rfl rfl (by show R2.out.length ≤ _; rw [HF2.out.2.2.2]; exact ho) _ HR8.out).mono ?_;rintro e w9 ⟨rfl, M9, hr9, ht9⟩;have HR9 := Hh hr9;have HT9 := Hh (HT8.out.trans ht9);clear hr9 ht9;go_wp2;go_end0;refine ⟨rfl, M9, ?_, HT9.out⟩;rw [HASK.out, if_pos (.inr HNE.out)];rw [HR2.out] at HR9;exact HR9.out
end
end Go.Proofs.YtogcnfhmcpkdcaaGreat
namespace Go.Proofs.YtogcnfhmcpkdcaaGreat
open Go.RowKit
set_option linter.unusedVariables false
set_option linter.unusedSimpArgs false
section
structure NxS (p f : Nat) (v : Int) (W : World) : Prop where
 cn : W.cell? ⟨p, 25 + f, none⟩ = some (.int .i64 v)
structure MatS (p g f : Nat) (A : Int) (x : PLet) (W : World) : Prop where
 l2 : W.cell? ⟨g, 2, none⟩ = some (.int .i64 x.a)
 l4 : W.cell? ⟨g, 4, none⟩ = some (.int .i64 x.o)
 cm : W.cell? ⟨p, 18 + f, none⟩ = some (.int .i64 A)
theorem MatS.of {p g f : Nat} {A : Int} {x : PLet} {ia : Option Addr} {n ic : Nat} {ba : Option Addr} {bc : Nat} {w : World} (hb : w.heap[g]? = some (.cells (lcell x ia n ic ba bc) 32 (0, 0))) (hc : w.cell? ⟨p, 18 + f, none⟩ = some (.int .i64 A)) : MatS p g f A x w :=
 let ⟨_, _, l2, _, l4, _⟩ := letCells hb
 ⟨l2, l4, hc⟩
structure GotS (g : Nat) (x : PLet) (W : World) : Prop where
 l2 : W.cell? ⟨g, 2, none⟩ = some (.int .i64 x.a)
 l4 : W.cell? ⟨g, 4, none⟩ = some (.int .i64 x.o)
 l5 : W.cell? ⟨g, 5, none⟩ = some (.bool x.y)
theorem GotS.of {g : Nat} {x : PLet} {ia : Option Addr} {n ic : Nat} {ba : Option Addr} {bc : Nat} {w : World} (hb : w.heap[g]? = some (.cells (lcell x ia n ic ba bc) 32 (0, 0))) : GotS g x w :=
 let ⟨_, _, l2, _, l4, l5, _⟩ := letCells hb
 ⟨l2, l4, l5⟩
set_option maxRecDepth 100000 in
set_option maxHeartbeats 2000000 in
theorem raftGot (p : Nat) (R : PRaft) (M : RMem) (f : Nat) (x : PLet) (ia : Option Addr) (n ic : Nat) (ba : Option Addr) (bc : Nat) (hok : R.Ok) (hfn : (f : Int) < R.n) (hr : rightL x = true) (ho : R.out.length ≤ 1000000000) (w : World) (h : RfAt w p R M) :
  Calls Tryz.prog 48 #[.pointer (some ⟨p, 0, none⟩), .int .i64 f, .agg (lcell x ia n ic ba bc)] w fun e w' => e = .returned (.tuple #[]) ∧ ∃ M', RfAt w' p (R.got f x) M' ∧ RTouch p M M' w w' := by
 obtain ⟨-, -, ⟨ha0, ha1⟩, -, ⟨ho0, ho1⟩, -⟩ := right_places hr;have hf7 : f < 7 := by have := hok.n7; omega
 have hk0 : (0 : Int) ≤ (f : Int) := by omega
 have hk1 : (f : Int) < 7 := by omega
 obtain ⟨V, hV, hbV, hsV, hrV⟩ := letBox w x ia n ic ba bc;have hrf := h.below hbV;have l1 := (letCells hrV).2.1;have c2 : V.cell? ⟨p, 2, none⟩ = some (.int .i64 R.bt) := hrf.c rfl;have c6 : V.cell? ⟨p, 6, none⟩ = some (.int .i64 R.role) := hrf.c rfl;obtain ⟨A, hA⟩ : ∃ A, R.mat.getD f 0 = A := ⟨_, rfl⟩
 obtain ⟨N, hN⟩ : ∃ N, R.nxt.getD f 0 = N := ⟨_, rfl⟩
 have hAb : 0 ≤ A ∧ A ≤ 1099511627776 := by rw [← hA]; exact getD_bound hok.mss (by rw [hok.m7]; exact hf7)
 have hNb : 0 ≤ N ∧ N ≤ 1099511627777 := by rw [← hN]; exact getD_bound hok.xs (by rw [hok.x7]; exact hf7)
 have HR := Hh hrf;have HB := Hh hbV;have HV := Hh hV;have HBX := Hh hrV;have HNW := Hh (h.notNew (Nat.le_refl w.heap.size));have HOK := Hh hok;have HA := Hh hA;have HN := Hh hN;have HGOT := Hh (show R.got f x = if R.role ≠ 2 ∨ x.t ≠ R.bt then R
  else if x.y = true ∧ x.a ≤ R.line.last then
   if (({ R with mat := R.mat.set f (max A x.a), nxt := R.nxt.set f (max N (x.a + 1)) } : PRaft).look).nxt.getD f 0 ≤ (({ R with mat := R.mat.set f (max A x.a), nxt := R.nxt.set f (max N (x.a + 1)) } : PRaft).look).line.last then (({ R with mat := R.mat.set f (max A x.a), nxt := R.nxt.set f (max N (x.a + 1)) } : PRaft).look).send f else (({ R with mat := R.mat.set f (max A x.a), nxt := R.nxt.set f (max N (x.a + 1)) } : PRaft).look)
  else if x.y = false ∧ x.o = N - 1 ∧ A < x.o then ({ R with nxt := R.nxt.set f (max (A + 1) (min (x.a + 1) x.o)) } : PRaft).send f
  else R by
   unfold PRaft.got;simp only [Int.toNat_natCast, hA, hN])
 clear hrf hbV hV hrV h hok hA hN;by_cases h1 : ¬ R.role = 2
 ·have t1 : (R.role == 2) = false := by simpa using h1
  have t1n : (R.role != 2) = true := by simpa using h1
  have HF := Hh (show R.got f x = R by rw [HGOT.out, if_pos (.inl h1)]);clear h1;go_enter Tryz.func48, Tryz.ntmps48
  go_wp2_with fail;rw [← HV.out];go_quiet (fail)
  go_wp2;refine bodyPost_ret (results_none rfl _ _ _) rfl ?_;exact ⟨rfl, M, by rw [HF.out]; exact HR.out.drawn rfl, (RTouch.ofBelow HB.out).trans (.ofBelow (below_drewN V _))⟩
 have h1 : R.role = 2 := Decidable.not_not.1 h1;have t1 : (R.role == 2) = true := by simpa using h1
 have t1n : (R.role != 2) = false := by simp [h1]
 by_cases h2 : ¬ x.t = R.bt
 ·have t2 : (x.t == R.bt) = false := by simpa using h2
  have t2n : (x.t != R.bt) = true := by simpa using h2
  have HF := Hh (show R.got f x = R by rw [HGOT.out, if_pos (.inr h2)]);clear h1 h2;go_enter Tryz.func48, Tryz.ntmps48
  go_wp2_with fail;rw [← HV.out];go_quiet (fail)
  go_wp2;refine bodyPost_ret (results_none rfl _ _ _) rfl ?_;exact ⟨rfl, M, by rw [HF.out]; exact HR.out.drawn rfl, (RTouch.ofBelow HB.out).trans (.ofBelow (below_drewN V _))⟩
 have h2 : x.t = R.bt := Decidable.not_not.1 h2;have t2 : (x.t == R.bt) = true := by simpa using h2
 have t2n : (x.t != R.bt) = false := by simp [h2]
 have HG1 := Hh (HGOT.out.trans (if_neg (show ¬ (R.role ≠ 2 ∨ x.t ≠ R.bt) from fun h9 => h9.elim (fun h8 => h8 h1) (fun h8 => h8 h2))));have hb1 : 1 ≤ R.bt := HOK.out.rb (by omega);clear h1 h2;obtain ⟨L, hL⟩ : ∃ L, R.line.last = L := ⟨_, rfl⟩
 have hLb := last_bounds HOK.out.line;rw [hL] at hLb;have HL := Hh hL;clear hL;cases hy : x.y with
 | true =>
  have HY := Hh hy;clear hy;by_cases h3 : x.a ≤ L
  ·have t3 : decide (x.a ≤ L) = true := decide_eq_true h3;go_enter Tryz.func48, Tryz.ntmps48
   go_wp2_with fail;rw [← HV.out];go_quiet (fail)
   go_wp2_with fail;obtain ⟨V1, hV1⟩ : ∃ V1, V1 = V.drewN nq := ⟨_, rfl⟩
   rw [← hV1];have HR1 := Hh (HR.out.drawn hV1);have HB1 := Hh (show Below V.heap.size V V1 by rw [hV1]; exact below_drewN V nq);have HBX1 := Hh ((HB1.out.block w.heap.size (by omega)).trans HBX.out);clear hV1 l1 c2 c6;refine OpG (S := GotS w.heap.size x) ?_;intro V2 hdr;have HR2 := Hh (HR1.out.below hdr);have hs2 := hdr.size;have HBX2 := Hh ((hdr.block w.heap.size (by have := HB1.out.size; omega)).trans HBX1.out);have hS0 : GotS w.heap.size x V2 := GotS.of HBX2.out;refine hW 0 22 (.pointer (some ⟨w.heap.size, 5, none⟩)) hS0 ?_;refine heldTake 1 23 (v := .bool true) rfl rfl (by kernel_rfl) (by kernel_rfl) (by kernel_rfl) (fun _ _ _ h => h) hS0 (.inl ⟨by rfl, by intro w' hS; obtain ⟨s1, s2, s3⟩ := hS; rw [HY.out] at s3; go_simp; (try (all_goals rfl))⟩) ?_;simp only [List.set_cons_zero, List.set_cons_succ];refine hT 2 24 hS0 ?_;refine hT 3 25 hS0 ?_;refine hT 5 27 hS0 ?_;refine hT 4 26 hS0 ?_;clear hS0;refine Op1 6 ?_;go_simp;refine (raftLast HOK.out.line HR2.out).mono ?_;rintro e V3 ⟨rfl, m3, hm3⟩;rw [HL.out];have HB3 := Hh (show Below V1.heap.size V1 V3 from hdr.trans (by rw [hm3]; exact (below_drewN V2 m3).mono hs2));have HR3 := Hh (HR2.out.drawn hm3);have HBX3 := Hh ((HB3.out.block w.heap.size (by have := HB1.out.size; omega)).trans HBX1.out);have hS3 : GotS w.heap.size x V3 := GotS.of HBX3.out;refine ⟨hS3, ?_⟩;clear hm3 hdr;refine hV 7 29 (.bool true) hS3 ?_;refine hT 8 30 hS3 ?_;refine hT 9 21 hS3 ?_;refine OpE ?_;clear hS3;go_wp2_with fail;refine OpG (S := GotS w.heap.size x) ?_;intro V4 hdr;have HR4 := Hh (HR3.out.below hdr);have hs3 : V1.heap.size ≤ V3.heap.size := HB3.out.size;have hsz1 : V.heap.size ≤ V1.heap.size := HB1.out.size;have HBX4 := Hh ((hdr.block w.heap.size (by omega)).trans HBX3.out);have hS4 : GotS w.heap.size x V4 := GotS.of HBX4.out;refine hT 0 31 hS4 ?_;refine hT 1 32 hS4 ?_;refine hT 2 33 hS4 ?_;refine hT 3 34 hS4 ?_;refine hT 8 39 hS4 ?_;refine hT 4 35 hS4 ?_;refine hT 9 40 hS4 ?_;refine hT 11 42 hS4 ?_;refine hT 5 36 hS4 ?_;refine hT 12 43 hS4 ?_;refine hT 6 37 hS4 ?_;have p2 : V4.cell? ⟨p, 18 + f, none⟩ = some (.int .i64 A) := by rw [← HA.out]; exact HR4.out.c (rcells_mat HR4.out.sv hf7)
   have f2 := HR4.out.f (18 + f);have HS4 := Hh hS4;clear hS4;refine Op1 7 ?_;go_simp;refine ⟨HS4.out, ?_⟩;refine Op1 10 ?_;go_simp;refine ⟨HS4.out, ?_⟩;have hS4 := HS4.out;refine hT 13 44 hS4 ?_;clear hS4;refine Op1 14 ?_;refine wp_store_cell 3 (.tmp 44) (.tmp 41) rfl p (18 + f) (iz (max A x.a)) _ rfl rfl rfl (by kernel_rfl) p2 f2 ?_;obtain ⟨V5, hV5⟩ : ∃ V5, V5 = V4.setCell ⟨p, 18 + f, none⟩ (iz (max A x.a)) := ⟨_, rfl⟩
   obtain ⟨a5, b5⟩ := HR4.out.setMat hf7 (max A x.a);rw [← hV5] at a5 b5 ⊢;have hs4 := hdr.size;have HR5 := Hh a5;have HT5 := Hh ((((RTouch.ofBelow HB.out).trans (.ofBelow HB1.out)).trans (.ofBelow (HB3.out.trans (hdr.mono hs3)))).trans b5);have hsz5 := b5.size;have HBX5 := Hh ((b5.block w.heap.size (by omega) HNW.out).trans HBX4.out);clear hV5 a5 b5 p2 f2 hdr;refine ⟨GotS.of HBX5.out, OpE ?_⟩;have w1 : IntKind.i64.wrap (x.a + 1) = x.a + 1 := IntWalk.i64_in _ (by omega);obtain ⟨R5, hR5⟩ : ∃ R5 : PRaft, R5 = { R with mat := R.mat.set f (max A x.a) } := ⟨_, rfl⟩
   have HN5 := Hh (show R5.nxt = R.nxt by rw [hR5]);rw [← hR5] at HR5;have HRD := Hh hR5;clear hR5;go_wp2_with fail;refine OpG (S := GotS w.heap.size x) ?_;intro V6 hdr;have HR6 := Hh (HR5.out.below hdr);have HBX6 := Hh ((hdr.block w.heap.size (by omega)).trans HBX5.out);have hS6 : GotS w.heap.size x V6 := GotS.of HBX6.out;refine hT 0 45 hS6 ?_;refine hT 1 46 hS6 ?_;refine hT 2 47 hS6 ?_;refine hT 3 48 hS6 ?_;refine hT 8 53 hS6 ?_;refine hT 4 49 hS6 ?_;refine hT 9 54 hS6 ?_;refine hT 12 57 hS6 ?_;refine hT 5 50 hS6 ?_;refine hW 10 55 (.int .i64 (x.a + 1)) hS6 ?_;refine hT 13 58 hS6 ?_;refine hT 6 51 hS6 ?_;have p2 : V6.cell? ⟨p, 25 + f, none⟩ = some (.int .i64 N) := by rw [← HN.out, ← HN5.out]; exact HR6.out.c (rcells_nxt HR6.out.sv hf7)
   have f2 := HR6.out.f (25 + f);have HS6 := Hh hS6;clear hS6;refine Op1 7 ?_;go_simp;refine ⟨HS6.out, ?_⟩;refine Op1 11 ?_;go_simp;refine ⟨HS6.out, ?_⟩;have hS6 := HS6.out;refine hT 14 59 hS6 ?_;clear hS6;refine Op1 15 ?_;refine wp_store_cell 3 (.tmp 59) (.tmp 56) rfl p (25 + f) (iz (max N (x.a + 1))) _ rfl rfl rfl (by kernel_rfl) p2 f2 ?_;obtain ⟨V7, hV7⟩ : ∃ V7, V7 = V6.setCell ⟨p, 25 + f, none⟩ (iz (max N (x.a + 1))) := ⟨_, rfl⟩
   obtain ⟨a7, b7⟩ := HR6.out.setNxt hf7 (max N (x.a + 1));rw [← hV7] at a7 b7 ⊢;obtain ⟨R7, hR7⟩ : ∃ R7 : PRaft, R7 = { R with mat := R.mat.set f (max A x.a), nxt := R.nxt.set f (max N (x.a + 1)) } := ⟨_, rfl⟩
   have HR7 := Hh (show RfAt V7 p R7 M by rw [hR7]; rw [HRD.out] at a7; exact a7);have hs6 := hdr.size;have HT7 := Hh ((HT5.out.trans (.ofBelow hdr)).trans b7);have HBX7 := Hh ((b7.block w.heap.size (by omega) HNW.out).trans HBX6.out);have HF7 := Hh (show R7.n = R.n ∧ R7.me = R.me ∧ R7.line = R.line ∧ R7.out = R.out ∧ R7.bt = R.bt by rw [hR7]; exact ⟨rfl, rfl, rfl, rfl, rfl⟩);have HOK7 := Hh (show R7.Ok by rw [hR7]; exact HOK.out.matched (by simp [HOK.out.m7]) (by simp [HOK.out.x7]) (set_bound HOK.out.mss (by omega)) (set_bound HOK.out.xs (by omega)));have HG2 := Hh (show R.got f x = if R7.look.nxt.getD f 0 ≤ R7.look.line.last then R7.look.send f else R7.look by rw [HG1.out, if_pos ⟨HY.out, by rw [HL.out]; exact h3⟩, hR7]);clear hV7 a7 b7 p2 f2 hdr hR7;refine ⟨GotS.of HBX7.out, OpE ?_⟩;go_wp2_with fail;refine (raftLook p R7 M HOK7.out.n1 HOK7.out.n7 HOK7.out.me0 HOK7.out.men HOK7.out.line _ HR7.out).mono ?_;rintro e V8 ⟨rfl, M8, hr8, ht8⟩;obtain ⟨R8, hR8⟩ : ∃ R8, R8 = R7.look := ⟨_, rfl⟩
   rw [← hR8] at hr8;obtain ⟨m9, c9, he9, -⟩ := look_eq R7;rw [← hR8] at HG2;have HF8 := Hh (show R8.nxt = R7.nxt ∧ R8.line = R.line ∧ R8.out = R.out by rw [hR8, he9]; exact ⟨rfl, HF7.out.2.2.1, HF7.out.2.2.2.1⟩);have HOK8 := Hh (show R8.Ok by rw [hR8]; exact ok_look HOK7.out (by rw [HF7.out.2.2.2.2]; exact hb1));obtain ⟨N8, hN8⟩ : ∃ N8, R8.nxt.getD f 0 = N8 := ⟨_, rfl⟩
   have HN8 := Hh hN8;have HR8 := Hh hr8;have HT8 := Hh (HT7.out.trans ht8);clear hr8 ht8 hR8 he9 hN8;go_wp2_with fail;refine OpG (S := NxS p f N8) ?_;intro V9 hdr;have HR9 := Hh (HR8.out.below hdr);have hS9 : NxS p f N8 V9 := ⟨by rw [← HN8.out]; exact HR9.out.c (rcells_nxt HR9.out.sv hf7)⟩
   refine hT 0 62 hS9 ?_;refine hT 1 63 hS9 ?_;refine hT 6 68 hS9 ?_;refine hT 2 64 hS9 ?_;refine hT 3 65 hS9 ?_;refine hT 4 66 hS9 ?_;refine hT 5 67 hS9 ?_;clear hS9;refine Op1 7 ?_;go_simp;refine (raftLast HOK8.out.line HR9.out).mono ?_;rintro e V10 ⟨rfl, m10, hm10⟩;rw [HF8.out.2.1, HL.out];have HR10 := Hh (HR9.out.drawn hm10);have HT10 := Hh (HT8.out.trans ((RTouch.ofBelow hdr).trans (.ofBelow (show Below V9.heap.size V9 V10 by rw [hm10]; exact below_drewN V9 m10))));have hS10 : NxS p f N8 V10 := ⟨by rw [← HN8.out]; exact HR10.out.c (rcells_nxt HR10.out.sv hf7)⟩
   refine ⟨hS10, ?_⟩;clear hm10 hdr;by_cases h9 : N8 ≤ L
   ·have t9 : decide (N8 ≤ L) = true := decide_eq_true h9;refine hT 8 70 hS10 ?_;refine OpE ?_;clear hS10;have HF := Hh (show R.got f x = R8.send f by rw [HG2.out, HN8.out, HF8.out.2.1, HL.out, if_pos h9]);clear h9;go_wp2_with fail;refine (raftSend p R8 M8 f hf7 HOK8.out.line HOK8.out.xs (by rw [HF8.out.2.2]; exact ho) _ HR10.out).mono ?_;rintro e V11 ⟨rfl, M11, hr11, ht11⟩;have HR11 := Hh hr11;have HT11 := Hh (HT10.out.trans ht11);clear hr11 ht11;go_wp2;go_end0;exact ⟨rfl, M11, by rw [HF.out]; exact HR11.out, HT11.out⟩
   ·have t9 : decide (N8 ≤ L) = false := decide_eq_false h9;refine hT 8 70 hS10 ?_;refine OpE ?_;clear hS10;have HF := Hh (show R.got f x = R8 by rw [HG2.out, HN8.out, HF8.out.2.1, HL.out, if_neg h9]);clear h9;go_wp2;go_end0;exact ⟨rfl, M8, by rw [HF.out]; exact HR10.out, HT10.out⟩
  ·have t3 : decide (x.a ≤ L) = false := decide_eq_false h3;have HF := Hh (show R.got f x = R by rw [HG1.out, if_neg (fun h9 => h3 (by rw [← HL.out]; exact h9.2)), if_neg (fun h9 => by rw [HY.out] at h9; cases h9.1)]);clear h3;go_enter Tryz.func48, Tryz.ntmps48
   go_wp2_with fail;rw [← HV.out];go_quiet (fail)
   go_wp2_with fail;obtain ⟨V1, hV1⟩ : ∃ V1, V1 = V.drewN nq := ⟨_, rfl⟩
   rw [← hV1];have HR1 := Hh (HR.out.drawn hV1);have HB1 := Hh (show Below V.heap.size V V1 by rw [hV1]; exact below_drewN V nq);have HBX1 := Hh ((HB1.out.block w.heap.size (by omega)).trans HBX.out);clear hV1 l1 c2 c6;refine OpG (S := GotS w.heap.size x) ?_;intro V2 hdr;have HR2 := Hh (HR1.out.below hdr);have hs2 := hdr.size;have HBX2 := Hh ((hdr.block w.heap.size (by have := HB1.out.size; omega)).trans HBX1.out);have hS0 : GotS w.heap.size x V2 := GotS.of HBX2.out;refine hW 0 22 (.pointer (some ⟨w.heap.size, 5, none⟩)) hS0 ?_;refine heldTake 1 23 (v := .bool true) rfl rfl (by kernel_rfl) (by kernel_rfl) (by kernel_rfl) (fun _ _ _ h => h) hS0 (.inl ⟨by rfl, by intro w' hS; obtain ⟨s1, s2, s3⟩ := hS; rw [HY.out] at s3; go_simp; (try (all_goals rfl))⟩) ?_;simp only [List.set_cons_zero, List.set_cons_succ];refine hT 2 24 hS0 ?_;refine hT 3 25 hS0 ?_;refine hT 5 27 hS0 ?_;refine hT 4 26 hS0 ?_;clear hS0;refine Op1 6 ?_;go_simp;refine (raftLast HOK.out.line HR2.out).mono ?_;rintro e V3 ⟨rfl, m3, hm3⟩;rw [HL.out];have HB3 := Hh (show Below V1.heap.size V1 V3 from hdr.trans (by rw [hm3]; exact (below_drewN V2 m3).mono hs2));have HR3 := Hh (HR2.out.drawn hm3);have HBX3 := Hh ((HB3.out.block w.heap.size (by have := HB1.out.size; omega)).trans HBX1.out);have hS3 : GotS w.heap.size x V3 := GotS.of HBX3.out;refine ⟨hS3, ?_⟩;clear hm3 hdr;refine hV 7 29 (.bool false) hS3 ?_;refine hT 8 30 hS3 ?_;refine hT 9 21 hS3 ?_;refine OpE ?_;clear hS3;have l5 := (letCells HBX3.out).2.2.2.2.2.1;rw [HY.out] at l5;go_wp2_with fail;go_quiet (fail)
   go_wp2;go_end0;exact ⟨rfl, M, by rw [HF.out]; exact HR3.out.drawn rfl, ((RTouch.ofBelow HB.out).trans (.ofBelow HB1.out)).trans ((RTouch.ofBelow HB3.out).trans (.ofBelow (below_drewN V3 _)))⟩
 | false =>
  have HY := Hh hy;clear hy;go_enter Tryz.func48, Tryz.ntmps48
  go_wp2_with fail;rw [← HV.out];go_quiet (fail)
  go_wp2_with fail;obtain ⟨V1, hV1⟩ : ∃ V1, V1 = V.drewN nq := ⟨_, rfl⟩
  rw [← hV1];have HR1 := Hh (HR.out.drawn hV1);have HB1 := Hh (show Below V.heap.size V V1 by rw [hV1]; exact below_drewN V nq);have HBX1 := Hh ((HB1.out.block w.heap.size (by omega)).trans HBX.out);clear hV1 l1 c2 c6;refine OpG (S := GotS w.heap.size x) ?_;intro V2 hdr;have HR2 := Hh (HR1.out.below hdr);have hs2 := hdr.size;have HBX2 := Hh ((hdr.block w.heap.size (by have := HB1.out.size; omega)).trans HBX1.out);have hS0 : GotS w.heap.size x V2 := GotS.of HBX2.out;refine hW 0 22 (.pointer (some ⟨w.heap.size, 5, none⟩)) hS0 ?_;have HD2 := Hh (show Below V1.heap.size V1 V2 from hdr);refine heldTake 1 23 (v := .bool false) rfl rfl (by kernel_rfl) (by kernel_rfl) (by kernel_rfl) (fun _ _ _ h => h) hS0 (.inl ⟨by rfl, by intro w' hS; obtain ⟨s1, s2, s3⟩ := hS; rw [HY.out] at s3; go_simp; (try (all_goals rfl))⟩) ?_;simp only [List.set_cons_zero, List.set_cons_succ];refine hT 2 24 hS0 ?_;refine hN 3 25 hS0 ?_;refine hN 5 27 hS0 ?_;refine hN 4 26 hS0 ?_;refine hN 6 28 hS0 ?_;refine hN 7 29 hS0 ?_;refine hT 8 30 hS0 ?_;refine hT 9 21 hS0 ?_;refine OpE ?_;clear hS0 hdr;have l5 := (letCells HBX2.out).2.2.2.2.2.1;have l4 := (letCells HBX2.out).2.2.2.2.1;have l2 := (letCells HBX2.out).2.2.1;rw [HY.out] at l5;have cn : V2.cell? ⟨p, 25 + f, none⟩ = some (.int .i64 N) := by rw [← HN.out]; exact HR2.out.c (rcells_nxt HR2.out.sv hf7)
  have cm : V2.cell? ⟨p, 18 + f, none⟩ = some (.int .i64 A) := by rw [← HA.out]; exact HR2.out.c (rcells_mat HR2.out.sv hf7)
  have w2 : IntKind.i64.wrap (N - 1) = N - 1 := IntWalk.i64_in _ (by omega);by_cases h4 : ¬ x.o = N - 1
  ·have t4 : (x.o == N - 1) = false := by simpa using h4
   have HF := Hh (show R.got f x = R by rw [HG1.out, if_neg (fun h9 => by rw [HY.out] at h9; cases h9.1), if_neg (fun h9 => h4 h9.2.1)]);clear h4;go_wp2_with fail;go_quiet (fail)
   go_wp2;go_end0;exact ⟨rfl, M, by rw [HF.out]; exact HR2.out.drawn rfl, ((RTouch.ofBelow HB.out).trans (.ofBelow HB1.out)).trans ((RTouch.ofBelow HD2.out).trans (.ofBelow (below_drewN V2 _)))⟩
  have h4 : x.o = N - 1 := Decidable.not_not.1 h4;have t4 : (x.o == N - 1) = true := by simpa using h4
  by_cases h5 : ¬ A < x.o
  ·have t5 : decide (A < x.o) = false := decide_eq_false h5;have HF := Hh (show R.got f x = R by rw [HG1.out, if_neg (fun h9 => by rw [HY.out] at h9; cases h9.1), if_neg (fun h9 => h5 h9.2.2)]);clear h4 h5;go_wp2_with fail;go_quiet (fail)
   go_wp2;go_end0;exact ⟨rfl, M, by rw [HF.out]; exact HR2.out.drawn rfl, ((RTouch.ofBelow HB.out).trans (.ofBelow HB1.out)).trans ((RTouch.ofBelow HD2.out).trans (.ofBelow (below_drewN V2 _)))⟩
  have h5 : A < x.o := Decidable.not_not.1 h5;have t5 : decide (A < x.o) = true := decide_eq_true h5;have HF := Hh (show R.got f x = ({ R with nxt := R.nxt.set f (max (A + 1) (min (x.a + 1) x.o)) } : PRaft).send f by rw [HG1.out, if_neg (fun h9 => by rw [HY.out] at h9; cases h9.1), if_pos ⟨HY.out, h4, h5⟩]);clear h4 h5;go_wp2_with fail;go_quiet (fail)
  go_wp2_with fail;obtain ⟨V3, hV3⟩ : ∃ V3, V3 = V2.drewN nq := ⟨_, rfl⟩
  rw [← hV3];have HR3 := Hh (HR2.out.drawn hV3);have HB3 := Hh (show Below V2.heap.size V2 V3 by rw [hV3]; exact below_drewN V2 nq);have hsv : V.heap.size ≤ V1.heap.size := HB1.out.size;have HBX3 := Hh ((HB3.out.block w.heap.size (by omega)).trans HBX2.out);clear hV3 l5 l4 l2 cn cm w2;have w3 : IntKind.i64.wrap (A + 1) = A + 1 := IntWalk.i64_in _ (by omega);have w4 : IntKind.i64.wrap (x.a + 1) = x.a + 1 := IntWalk.i64_in _ (by omega);refine OpG (S := MatS p w.heap.size f A x) ?_;intro V4 hdr;have HR4 := Hh (HR3.out.below hdr);have hs3 : V2.heap.size ≤ V3.heap.size := HB3.out.size;have HBX4 := Hh ((hdr.block w.heap.size (by omega)).trans HBX3.out);have hS4 : MatS p w.heap.size f A x V4 := MatS.of HBX4.out (by rw [← HA.out]; exact HR4.out.c (rcells_mat HR4.out.sv hf7));refine hT 0 101 hS4 ?_;refine hT 1 102 hS4 ?_;refine hT 2 103 hS4 ?_;refine hT 3 104 hS4 ?_;refine hT 9 110 hS4 ?_;refine hT 12 113 hS4 ?_;refine hT 4 105 hS4 ?_;refine hT 10 111 hS4 ?_;refine hT 13 114 hS4 ?_;refine hT 16 117 hS4 ?_;refine hT 5 106 hS4 ?_;refine hW 11 112 (.int .i64 (x.a + 1)) hS4 ?_;refine hT 17 118 hS4 ?_;refine hT 6 107 hS4 ?_;refine hT 7 108 hS4 ?_;refine hW 8 109 (.int .i64 (A + 1)) hS4 ?_;have HS4 := Hh hS4;clear hS4;refine Op1 14 ?_;go_simp;refine ⟨HS4.out, ?_⟩;refine Op1 15 ?_;go_simp;refine ⟨HS4.out, ?_⟩;have hS4 := HS4.out;refine hT 18 119 hS4 ?_;clear hS4;have p2 : V4.cell? ⟨p, 25 + f, none⟩ = some (.int .i64 N) := by rw [← HN.out]; exact HR4.out.c (rcells_nxt HR4.out.sv hf7)
  have f2 := HR4.out.f (25 + f);refine Op1 19 ?_;refine wp_store_cell 3 (.tmp 119) (.tmp 116) rfl p (25 + f) (iz (max (A + 1) (min (x.a + 1) x.o))) _ rfl rfl rfl (by kernel_rfl) p2 f2 ?_;obtain ⟨V7, hV7⟩ : ∃ V7, V7 = V4.setCell ⟨p, 25 + f, none⟩ (iz (max (A + 1) (min (x.a + 1) x.o))) := ⟨_, rfl⟩
  obtain ⟨a7, b7⟩ := HR4.out.setNxt hf7 (max (A + 1) (min (x.a + 1) x.o));rw [← hV7] at a7 b7 ⊢;obtain ⟨R7, hR7⟩ : ∃ R7 : PRaft, R7 = { R with nxt := R.nxt.set f (max (A + 1) (min (x.a + 1) x.o)) } := ⟨_, rfl⟩
  rw [← hR7] at a7 HF;have HR7 := Hh a7;have hs4 := hdr.size;have HT7 := Hh ((((RTouch.ofBelow HB.out).trans (.ofBelow HB1.out)).trans ((RTouch.ofBelow HD2.out).trans ((RTouch.ofBelow HB3.out).trans (.ofBelow hdr)))).trans b7);have HBX7 := Hh ((b7.block w.heap.size (by omega) HNW.out).trans HBX4.out);have HOK7 := Hh (show R7.Ok by rw [hR7]; exact HOK.out.matched (m := R.mat) (x := R.nxt.set f (max (A + 1) (min (x.a + 1) x.o))) HOK.out.m7 (by simp [HOK.out.x7]) HOK.out.mss (set_bound HOK.out.xs (by omega)));have HO7 := Hh (show R7.out = R.out ∧ R7.mat = R.mat by rw [hR7]; exact ⟨rfl, rfl⟩);clear hV7 a7 b7 p2 f2 hdr hR7;refine ⟨MatS.of HBX7.out (by rw [← HA.out, ← HO7.out.2]; exact HR7.out.c (rcells_mat HR7.out.sv hf7)), OpE ?_⟩;go_wp2_with fail;refine (raftSend p R7 M f hf7 HOK7.out.line HOK7.out.xs (by rw [HO7.out.1]; exact ho) _ HR7.out).mono ?_;rintro e V11 ⟨rfl, M11, hr11, ht11⟩;have HR11 := Hh hr11;have HT11 := Hh (HT7.out.trans ht11);clear hr11 ht11;go_wp2;go_end0;exact ⟨rfl, M11, by rw [HF.out]; exact HR11.out, HT11.out⟩
end
end Go.Proofs.YtogcnfhmcpkdcaaGreat
