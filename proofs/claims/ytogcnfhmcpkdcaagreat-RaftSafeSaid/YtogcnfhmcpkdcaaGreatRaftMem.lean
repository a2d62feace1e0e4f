/-
  A replica in memory: its cells, its rows, and what each turning leaves as it was. No walk.
-/
import Derived.Test.YtogcnfhmcpkdcaaGreatRaftLaw
import Derived.Test.YtogcnfhmcpkdcaaGreatLineM8
import Derived.Test.YtogcnfhmcpkdcaaGreatLineM9
namespace Go.Proofs.YtogcnfhmcpkdcaaGreat
open Go.RowKit
set_option linter.unusedVariables false
set_option linter.unusedSimpArgs false
abbrev iz (n : Int) : Value := .int .i64 n
structure MNote where
 a : Option Addr
 c : Nat
 b : List UInt8
abbrev MNote.cell (m : MNote) : Value := .slice m.a m.b.length m.c
abbrev ByAt (w : World) (a : Option Addr) (c : Nat) (l : List UInt8) : Prop := OwnBs 5 w ⟨0, a, l.length, c, l⟩
structure MPost where
 to : Int
 x : PLet
 ia : Option Addr
 ic : Nat
 ms : List MItem
 ba : Option Addr
 bc : Nat
def MPost.cells (m : MPost) : List Value := [iz m.to, iz m.x.k, iz m.x.t, iz m.x.a, iz m.x.u, iz m.x.o, .bool m.x.y, .slice m.ia m.ms.length m.ic, .slice m.ba m.x.b.length m.bc]
def MPost.p (m : MPost) : PPost := (m.to, m.x)
structure MPost.At (w : World) (m : MPost) : Prop where
 own : ItemsOwn w 0 m.ia m.ic m.ms
 eq : m.ms.map MItem.it = m.x.its
 b : ByAt w m.ba m.bc m.x.b
structure RMem where
 lb : Nat
 la : Option Addr
 lc : Nat
 ms : List MItem
 sa : Option Addr
 sc : Nat
 na : Option Addr
 nc : Nat
 ns : List MNote
 oa : Option Addr
 on : Nat
 oc : Nat
 ocs : List Value
 ps : List MPost
def rhead (R : PRaft) (M : RMem) : List Value := [iz R.me, iz R.n, iz R.bt, iz R.bf, .pointer (some ⟨M.lb, 0, none⟩), .slice M.sa R.state.length M.sc, iz R.role, iz R.lead, iz R.commit, iz R.applied, iz R.ticks]
def rtail (R : PRaft) (M : RMem) : List Value := [.bool R.jumped, .slice M.na M.ns.length M.nc, .slice M.oa M.on M.oc]
def rcells (R : PRaft) (M : RMem) : List Value := rhead R M ++ (R.votes.map iz ++ (R.mat.map iz ++ (R.nxt.map iz ++ rtail R M)))
structure Sev (R : PRaft) : Prop where
 v7 : R.votes.length = 7
 m7 : R.mat.length = 7
 x7 : R.nxt.length = 7
theorem Sev.cp {R R' : PRaft} (h : Sev R) (hv : R'.votes = R.votes) (hm : R'.mat = R.mat) (hx : R'.nxt = R.nxt) : Sev R' := ⟨by rw [hv]; exact h.v7, by rw [hm]; exact h.m7, by rw [hx]; exact h.x7⟩
theorem rcells_votes {R : PRaft} {M : RMem} (h : Sev R) {j : Nat} (hj : j < 7) : (rcells R M)[11 + j]? = some (iz (R.votes.getD j 0)) := by
 rw [rcells, List.getElem?_append_right (by simp [rhead]), List.getElem?_append_left (by simp [rhead, h.v7]; omega)];simp [rhead, List.getElem?_map, List.getD, List.getElem?_eq_getElem (show j < R.votes.length by rw [h.v7]; exact hj)]
theorem rcells_mat {R : PRaft} {M : RMem} (h : Sev R) {j : Nat} (hj : j < 7) : (rcells R M)[18 + j]? = some (iz (R.mat.getD j 0)) := by
 rw [rcells, List.getElem?_append_right (by simp [rhead]; omega), List.getElem?_append_right (by simp [rhead, h.v7]; omega), List.getElem?_append_left (by simp [rhead, h.v7, h.m7]; omega)];simp only [rhead, List.length_map, h.v7, List.length_cons, List.length_nil];rw [show 18 + j - (0 + 1 + 1 + 1 + 1 + 1 + 1 + 1 + 1 + 1 + 1 + 1) - 7 = j by omega];simp [List.getElem?_map, List.getD, List.getElem?_eq_getElem (show j < R.mat.length by rw [h.m7]; exact hj)]
theorem rcells_nxt {R : PRaft} {M : RMem} (h : Sev R) {j : Nat} (hj : j < 7) : (rcells R M)[25 + j]? = some (iz (R.nxt.getD j 0)) := by
 rw [rcells, List.getElem?_append_right (by simp [rhead]; omega), List.getElem?_append_right (by simp [rhead, h.v7]; omega), List.getElem?_append_right (by simp [rhead, h.v7, h.m7]; omega), List.getElem?_append_left (by simp [rhead, h.v7, h.m7, h.x7]; omega)];simp only [rhead, List.length_map, h.v7, h.m7, List.length_cons, List.length_nil];rw [show 25 + j - (0 + 1 + 1 + 1 + 1 + 1 + 1 + 1 + 1 + 1 + 1 + 1) - 7 - 7 = j by omega];simp [List.getElem?_map, List.getD, List.getElem?_eq_getElem (show j < R.nxt.length by rw [h.x7]; exact hj)]
theorem rcells_tail {R : PRaft} {M : RMem} (h : Sev R) {j : Nat} (hj : j < 3) : (rcells R M)[32 + j]? = (rtail R M)[j]? := by
 rw [rcells, List.getElem?_append_right (by simp [rhead]; omega), List.getElem?_append_right (by simp [rhead, h.v7]; omega), List.getElem?_append_right (by simp [rhead, h.v7, h.m7]; omega), List.getElem?_append_right (by simp [rhead, h.v7, h.m7, h.x7]; omega)];simp only [rhead, List.length_map, h.v7, h.m7, h.x7, List.length_cons, List.length_nil];rw [show 32 + j - (0 + 1 + 1 + 1 + 1 + 1 + 1 + 1 + 1 + 1 + 1 + 1) - 7 - 7 - 7 = j by omega]
theorem rcells_setHead {R R' : PRaft} {M M' : RMem} {j : Nat} {x : Value} (hj : j < 11) (hh : (rhead R M).set j x = rhead R' M') (hv : R'.votes = R.votes) (hm : R'.mat = R.mat) (hx : R'.nxt = R.nxt) (ht : rtail R' M' = rtail R M) : (rcells R M).set j x = rcells R' M' := by
 rw [rcells, rcells, List.set_append_left _ _ (by simp [rhead]; omega), hh, hv, hm, hx, ht]
theorem rcells_setVotes {R : PRaft} {M : RMem} (h : Sev R) {j : Nat} (hj : j < 7) (x : Int) : (rcells R M).set (11 + j) (iz x) = rcells { R with votes := R.votes.set j x } M := by
 rw [rcells, rcells, List.set_append_right _ _ (by simp [rhead]), List.set_append_left _ _ (by simp [rhead, h.v7]; omega)];simp only [rhead, List.length_cons, List.length_nil];rw [show 11 + j - (0 + 1 + 1 + 1 + 1 + 1 + 1 + 1 + 1 + 1 + 1 + 1) = j by omega, List.map_set];rfl
theorem rcells_setMat {R : PRaft} {M : RMem} (h : Sev R) {j : Nat} (hj : j < 7) (x : Int) : (rcells R M).set (18 + j) (iz x) = rcells { R with mat := R.mat.set j x } M := by
 rw [rcells, rcells, List.set_append_right _ _ (by simp [rhead]; omega), List.set_append_right _ _ (by simp [rhead, h.v7]; omega), List.set_append_left _ _ (by simp [rhead, h.v7, h.m7]; omega)];simp only [rhead, List.length_map, h.v7, List.length_cons, List.length_nil];rw [show 18 + j - (0 + 1 + 1 + 1 + 1 + 1 + 1 + 1 + 1 + 1 + 1 + 1) - 7 = j by omega, List.map_set];rfl
theorem rcells_setNxt {R : PRaft} {M : RMem} (h : Sev R) {j : Nat} (hj : j < 7) (x : Int) : (rcells R M).set (25 + j) (iz x) = rcells { R with nxt := R.nxt.set j x } M := by
 rw [rcells, rcells, List.set_append_right _ _ (by simp [rhead]; omega), List.set_append_right _ _ (by simp [rhead, h.v7]; omega), List.set_append_right _ _ (by simp [rhead, h.v7, h.m7]; omega), List.set_append_left _ _ (by simp [rhead, h.v7, h.m7, h.x7]; omega)];simp only [rhead, List.length_map, h.v7, h.m7, List.length_cons, List.length_nil];rw [show 25 + j - (0 + 1 + 1 + 1 + 1 + 1 + 1 + 1 + 1 + 1 + 1 + 1) - 7 - 7 = j by omega, List.map_set];rfl
theorem rcells_setTail {R R' : PRaft} {M M' : RMem} (h : Sev R) {j : Nat} {x : Value} (hj : j < 3) (ht : (rtail R M).set j x = rtail R' M') (hh : rhead R' M' = rhead R M) (hv : R'.votes = R.votes) (hm : R'.mat = R.mat) (hx : R'.nxt = R.nxt) : (rcells R M).set (32 + j) x = rcells R' M' := by
 rw [rcells, rcells, List.set_append_right _ _ (by simp [rhead]; omega), List.set_append_right _ _ (by simp [rhead, h.v7]; omega), List.set_append_right _ _ (by simp [rhead, h.v7, h.m7]; omega), List.set_append_right _ _ (by simp [rhead, h.v7, h.m7, h.x7]; omega)];simp only [List.length_map, h.v7, h.m7, h.x7];rw [show (rhead R M).length = 11 from rfl, show 32 + j - 11 - 7 - 7 - 7 = j by omega, ht, hh, hv, hm, hx]
def RMem.own (p : Nat) (M : RMem) (k : Nat) : Prop := k = p ∨ k = M.lb ∨ M.la.map (·.block) = some k ∨ M.na.map (·.block) = some k ∨ M.oa.map (·.block) = some k
structure PostsAt (w : World) (p : Nat) (M : RMem) (out : List PPost) : Prop where
 q : M.ps.map MPost.p = out
 c : M.ocs = M.ps.flatMap MPost.cells
 m : ∀ m ∈ M.ps, m.At w
 n : ∀ m ∈ M.ps, ∀ k, m.ia.map (·.block) = some k → ¬ M.own p k
structure RfAt (w : World) (p : Nat) (R : PRaft) (M : RMem) : Prop where
 sv : Sev R
 row : w.heap[p]? = some (.cells (rcells R M).toArray 84 (0, 0))
 ln : LnAt w 0 M.lb R.line M.la M.lc M.ms
 st : ByAt w M.sa M.sc R.state
 nw : w.ownsRow 0 27 1 (.slice M.na M.ns.length M.nc) M.ns.length (M.ns.map MNote.cell)
 nb : ∀ m ∈ M.ns, ByAt w m.a m.c m.b
 nq : M.ns.map MNote.b = R.news
 ou : w.ownsRow 0 102 9 (.slice M.oa M.on M.oc) M.on M.ocs
 oq : M.on = R.out.length
 po : PostsAt w p M R.out
theorem ownBlock_eq (a : Option Addr) (n c : Nat) : (Value.slice a n c).ownBlock = a.map (·.block) := by cases a <;> rfl
structure RTouch (p : Nat) (M M' : RMem) (w w' : World) : Prop where
 os : w'.os = w.os
 tape : w'.tape = w.tape
 output : w'.output = w.output
 size : w.heap.size ≤ w'.heap.size
 block : ∀ k, k < w.heap.size → ¬ M.own p k → w'.heap[k]? = w.heap[k]?
 fresh : ∀ k, M'.own p k → M.own p k ∨ w.heap.size ≤ k
theorem RTouch.refl (p : Nat) (M : RMem) (w : World) : RTouch p M M w w := ⟨rfl, rfl, rfl, Nat.le_refl _, fun _ _ _ => rfl, fun _ h => .inl h⟩
theorem RTouch.trans {p : Nat} {M M1 M2 : RMem} {a b c : World} (h : RTouch p M M1 a b) (k : RTouch p M1 M2 b c) : RTouch p M M2 a c :=
 ⟨k.os.trans h.os, k.tape.trans h.tape, k.output.trans h.output, Nat.le_trans h.size k.size, fun i hi hn => (k.block i (Nat.lt_of_lt_of_le hi h.size) (fun h1 => by
  rcases h.fresh i h1 with h2 | h2
  ·exact hn h2
  ·omega)).trans (h.block i hi hn), fun i h1 => by
  rcases k.fresh i h1 with h2 | h2
  ·exact h.fresh i h2
  ·exact .inr (Nat.le_trans h.size h2)⟩
theorem RTouch.ofBelow {p : Nat} {M : RMem} {w w' : World} (h : Below w.heap.size w w') : RTouch p M M w w' := ⟨h.os, h.tape, h.output, h.size, fun k hk _ => h.block k hk, fun _ h => .inl h⟩
theorem RTouch.below {p B : Nat} {M M' : RMem} {w w' : World} (h : RTouch p M M' w w') (hB : ∀ k, M.own p k → B ≤ k) (hs : B ≤ w.heap.size) : Below B w w' :=
 ⟨h.os, h.tape, h.output, h.size, fun k hk => h.block k (by omega) (fun h1 => by have := hB k h1; omega)⟩
theorem RTouch.inn {p B : Nat} {M M' : RMem} {w w' : World} (h : RTouch p M M' w w') (hB : ∀ k, M.own p k → B ≤ k) (hs : B ≤ w.heap.size) : ∀ k, M'.own p k → B ≤ k := fun k h1 => by
 rcases h.fresh k h1 with h2 | h2
 ·exact hB k h2
 ·omega
theorem types18 : (84 : Nat) ≠ 105 ∧ (84 : Nat) ≠ 40 ∧ (84 : Nat) ≠ 27 ∧ (84 : Nat) ≠ 102 ∧ (84 : Nat) ≠ 5 ∧ (105 : Nat) ≠ 40 ∧ (105 : Nat) ≠ 27 ∧ (105 : Nat) ≠ 102 ∧ (105 : Nat) ≠ 5 ∧ (40 : Nat) ≠ 27 ∧ (40 : Nat) ≠ 102 ∧ (40 : Nat) ≠ 5 ∧ (27 : Nat) ≠ 102 ∧ (27 : Nat) ≠ 5 ∧ (102 : Nat) ≠ 5 := by decide
theorem own_kind {w : World} {base e size n : Nat} {a : Option Addr} {c : Nat} {xs : List Value} (h : w.ownsRow base e size (.slice a n c) n xs) {k : Nat} (hk : a.map (·.block) = some k) : ∃ cur, w.heap[k]? = some (.cells cur e (0, 0)) :=
 own_block h (by rw [ownBlock_eq]; exact hk)
theorem kind_eq {w : World} {k : Nat} {cs cs' : Array Value} {T T' : TypeId} {fr fr' : Nat × Nat} (h : w.heap[k]? = some (.cells cs T fr)) (h' : w.heap[k]? = some (.cells cs' T' fr')) : (T : Nat) = T' := by
 rw [h] at h';injection h' with h'
 injection h' with _ e _
theorem own_mv9 {w w' : World} {base e size n : Nat} {v : Value} {xs : List Value} (h : w.ownsRow base e size v n xs) (hb : ∀ g, v.ownBlock = some g → w'.heap[g]? = w.heap[g]?) : w'.ownsRow base e size v n xs := by
 refine ⟨h.1, ?_⟩;rcases h.2 with ⟨e, hn⟩ | ⟨g, cap, cur, e, h1, h2, h3, h4, h5, h6⟩
 ·exact .inl ⟨e, hn⟩
 ·exact .inr ⟨g, cap, cur, e, h1, (hb g (by rw [e]; rfl)).trans h2, h3, h4, h5, h6⟩
section
variable {w w' : World} {p : Nat} {R R' : PRaft} {M M' : RMem}
theorem RfAt.lt (h : RfAt w p R M) : p < w.heap.size := (Array.getElem?_eq_some_iff.1 h.row).1
theorem RfAt.kinds (h : RfAt w p R M) {k : Nat} {cs : Array Value} {T : TypeId} {fr : Nat × Nat} (hk : w.heap[k]? = some (.cells cs T fr)) (ho : M.own p k) : (T : Nat) = 84 ∨ (T : Nat) = 105 ∨ (T : Nat) = 40 ∨ (T : Nat) = 27 ∨ (T : Nat) = 102 := by
 rcases ho with rfl | rfl | e | e | e
 ·exact .inl (kind_eq hk h.row)
 ·exact .inr (.inl (kind_eq hk h.ln.row))
 ·obtain ⟨cur, hc⟩ := own_kind h.ln.own e;exact .inr (.inr (.inl (kind_eq hk hc)))
 ·obtain ⟨cur, hc⟩ := own_kind h.nw e;exact .inr (.inr (.inr (.inl (kind_eq hk hc))))
 ·obtain ⟨cur, hc⟩ := own_kind h.ou e;exact .inr (.inr (.inr (.inr (kind_eq hk hc))))
theorem RfAt.notU8 (h : RfAt w p R M) {k : Nat} {cs : Array Value} {fr : Nat × Nat} (hk : w.heap[k]? = some (.cells cs 5 fr)) : ¬ M.own p k := fun ho => by
 obtain ⟨-, -, -, -, h1, -, -, -, h2, -, -, h3, -, h4, h5⟩ := types18;rcases h.kinds hk ho with e | e | e | e | e
 ·exact h1 e.symm
 ·exact h2 e.symm
 ·exact h3 e.symm
 ·exact h4 e.symm
 ·exact h5 e.symm
theorem RfAt.keeps (h : RfAt w p R M) (ht : RTouch p M M' w w') {a : Option Addr} {c : Nat} {l : List UInt8} (hb : ByAt w a c l) : ByAt w' a c l :=
 OwnBs.grown (T := 5) hb (fun k cs fr hk hc => ht.block k hk (h.notU8 hc)) ht.size
theorem MPost.At.below {m : MPost} (h : m.At w) (hb : Below w.heap.size w w') : m.At w' := ⟨h.own.below hb, h.eq, h.b.below hb⟩
theorem MPost.At.block {m : MPost} (h : m.At w) {k : Nat} (hk : m.ia.map (·.block) = some k) : k < w.heap.size := by
 obtain ⟨cur, hc⟩ := own_kind h.own.own hk;exact (Array.getElem?_eq_some_iff.1 hc).1
theorem MPost.At.kept {m : MPost} (h : m.At w) (hi : ∀ k, m.ia.map (·.block) = some k → w'.heap[k]? = w.heap[k]?) (hU : ∀ k cs fr, k < w.heap.size → w.heap[k]? = some (.cells cs 5 fr) → w'.heap[k]? = w.heap[k]?) (hs : w.heap.size ≤ w'.heap.size) : m.At w' :=
 ⟨⟨own_mv9 h.own.own fun g hg => hi g (by rw [ownBlock_eq] at hg; exact hg), fun y hy => OwnBs.grown (T := 5) (h.own.bs y hy) hU hs⟩, h.eq, OwnBs.grown (T := 5) h.b hU hs⟩
theorem RfAt.postKeep (h : RfAt w p R M) (ht : RTouch p M M' w w') (e1 : M'.ps = M.ps) (e2 : M'.ocs = M.ocs) : PostsAt w' p M' R.out := by
 refine ⟨by rw [e1]; exact h.po.q, by rw [e1, e2]; exact h.po.c, fun m hm => ?_, fun m hm k hk ho => ?_⟩
 ·rw [e1] at hm;exact (h.po.m m hm).kept (fun k hk => ht.block k ((h.po.m m hm).block hk) (h.po.n m hm k hk)) (fun k cs fr hk hc => ht.block k hk (h.notU8 hc)) ht.size
 ·rw [e1] at hm;have hl := (h.po.m m hm).block hk;rcases ht.fresh k ho with h9 | h9
  ·exact h.po.n m hm k hk h9
  ·omega
theorem RfAt.below (h : RfAt w p R M) (hb : Below w.heap.size w w') : RfAt w' p R M :=
 ⟨h.sv, (hb.block _ h.lt).trans h.row, h.ln.below hb, h.st.below hb, own_below' h.nw hb, fun m hm => (h.nb m hm).below hb, h.nq, own_below' h.ou hb, h.oq, ⟨h.po.q, h.po.c, fun m hm => (h.po.m m hm).below hb, h.po.n⟩⟩
theorem RfAt.apart (h : RfAt w p R M) : M.lb ≠ p ∧ M.la.map (·.block) ≠ some p ∧ M.na.map (·.block) ≠ some p ∧ M.oa.map (·.block) ≠ some p ∧ M.na.map (·.block) ≠ some M.lb ∧ M.oa.map (·.block) ≠ some M.lb ∧ (∀ k, M.la.map (·.block) = some k → M.na.map (·.block) ≠ some k ∧ M.oa.map (·.block) ≠ some k) ∧ (∀ k, M.na.map (·.block) = some k → M.oa.map (·.block) ≠ some k) := by
 obtain ⟨t1, t2, t3, t4, t5, t6, t7, t8, t9, t10, t11, t12, t13, t14, t15⟩ := types18;refine ⟨fun e => ?_, fun e => ?_, fun e => ?_, fun e => ?_, fun e => ?_, fun e => ?_, fun k e => ⟨fun e' => ?_, fun e' => ?_⟩, fun k e e' => ?_⟩
 ·have h1 := h.ln.row; rw [e] at h1; exact t1 (kind_eq h.row h1)
 ·obtain ⟨cur, hc⟩ := own_kind h.ln.own e; exact t2 (kind_eq h.row hc)
 ·obtain ⟨cur, hc⟩ := own_kind h.nw e; exact t3 (kind_eq h.row hc)
 ·obtain ⟨cur, hc⟩ := own_kind h.ou e; exact t4 (kind_eq h.row hc)
 ·obtain ⟨cur, hc⟩ := own_kind h.nw e; exact t7 (kind_eq h.ln.row hc)
 ·obtain ⟨cur, hc⟩ := own_kind h.ou e; exact t8 (kind_eq h.ln.row hc)
 ·obtain ⟨c1, h1⟩ := own_kind h.ln.own e; obtain ⟨c2, h2⟩ := own_kind h.nw e'; exact t10 (kind_eq h1 h2)
 ·obtain ⟨c1, h1⟩ := own_kind h.ln.own e; obtain ⟨c2, h2⟩ := own_kind h.ou e'; exact t11 (kind_eq h1 h2)
 ·obtain ⟨c1, h1⟩ := own_kind h.nw e; obtain ⟨c2, h2⟩ := own_kind h.ou e'; exact t13 (kind_eq h1 h2)
theorem RfAt.turn (h : RfAt w p R M) (hs : Sev R') (hrow : w'.heap[p]? = some (.cells (rcells R' M).toArray 84 (0, 0))) (ho : ∀ k, k ≠ p → w'.heap[k]? = w.heap[k]?) (hos : w'.os = w.os) (htp : w'.tape = w.tape) (hou : w'.output = w.output) (hsz : w'.heap.size = w.heap.size)
  (hl : R'.line = R.line) (hst : R'.state = R.state) (hn : R'.news = R.news) (hp : R'.out = R.out) : RfAt w' p R' M ∧ RTouch p M M w w' := by
 have hT : RTouch p M M w w' := ⟨hos, htp, hou, by omega, fun k _ hk => ho k (fun e => hk (.inl e)), fun _ h => .inl h⟩
 obtain ⟨a1, a2, a3, a4, -⟩ := h.apart;refine ⟨⟨hs, hrow, ?_, by rw [hst]; exact h.keeps hT h.st, own_mv9 h.nw fun g hg => ho g (fun e => by rw [ownBlock_eq] at hg; exact a3 (by rw [← e]; exact hg)), fun m hm => h.keeps hT (h.nb m hm), by rw [hn]; exact h.nq, own_mv9 h.ou fun g hg => ho g (fun e => by rw [ownBlock_eq] at hg; exact a4 (by rw [← e]; exact hg)), by rw [hp]; exact h.oq, by rw [hp]; exact h.postKeep hT rfl rfl⟩, hT⟩;rw [hl];exact ⟨(ho _ a1).trans h.ln.row, own_mv9 h.ln.own fun g hg => ho g (fun e => by rw [ownBlock_eq] at hg; exact a2 (by rw [← e]; exact hg)), h.ln.its, fun m hm => OwnBs.grown (T := 5) (h.ln.bs m hm) (fun k cs fr hk hc => hT.block k hk (h.notU8 hc)) hT.size, Nat.zero_le _⟩
theorem RfAt.set (h : RfAt w p R M) (i : Nat) (x : Value) (hc : (rcells R M).set i x = rcells R' M) (hs : Sev R') (hl : R'.line = R.line) (hst : R'.state = R.state) (hn : R'.news = R.news) (hp : R'.out = R.out) : RfAt (w.setCell ⟨p, i, none⟩ x) p R' M ∧ RTouch p M M w (w.setCell ⟨p, i, none⟩ x) := by
 have h9 := heap_setCell_same w p i _ _ x h.row;refine h.turn hs ?_ (fun k hk => Below.heap_setCell _ _ _ k hk) rfl rfl rfl (by simp) hl hst hn hp;rw [h9, ← hc]
 simp
theorem RfAt.lnKeep (h : RfAt w p R M) (hT : RTouch p M M' w w') (h1 : w'.heap[M.lb]? = w.heap[M.lb]?) (h2 : ∀ k, M.la.map (·.block) = some k → w'.heap[k]? = w.heap[k]?) : LnAt w' 0 M.lb R.line M.la M.lc M.ms :=
 ⟨h1.trans h.ln.row, own_mv9 h.ln.own fun g hg => h2 g (by rw [ownBlock_eq] at hg; exact hg), h.ln.its, fun m hm => OwnBs.grown (T := 5) (h.ln.bs m hm) (fun k cs fr hk hc => hT.block k hk (h.notU8 hc)) hT.size, Nat.zero_le _⟩
theorem RfAt.note (h : RfAt w p R M) {w1 : World} {a : Option Addr} {c : Nat} {m : MNote} (hm : ByAt w m.a m.c m.b) (ho : w1.ownsRow 0 27 1 (.slice a (M.ns.length + 1) c) (M.ns.length + 1) (M.ns.map MNote.cell ++ [m.cell]))
  (hg : w.grownBy w1 (Value.slice M.na M.ns.length M.nc).ownBlock) (ha : (Value.slice a (M.ns.length + 1) c).ownBlock = (Value.slice M.na M.ns.length M.nc).ownBlock ∨ (Value.slice a (M.ns.length + 1) c).ownBlock = some w.heap.size) :
  RfAt (w1.setCell ⟨p, 33, none⟩ (.slice a (M.ns.length + 1) c)) p { R with news := R.news ++ [m.b] } { M with na := a, nc := c, ns := M.ns ++ [m] } ∧ RTouch p M { M with na := a, nc := c, ns := M.ns ++ [m] } w (w1.setCell ⟨p, 33, none⟩ (.slice a (M.ns.length + 1) c)) := by
 have hp := h.lt;have hs := hg.size;rw [ownBlock_eq] at hg ha;rw [ownBlock_eq] at ha;obtain ⟨a1, a2, a3, a4, a5, a6, a7, a8⟩ := h.apart;have hlb : M.lb < w.heap.size := (Array.getElem?_eq_some_iff.1 h.ln.row).1;have hrow : w1.heap[p]? = some (.cells (rcells R M).toArray 84 (0, 0)) := (hg.block p hp (fun e => a3 e.symm)).trans h.row;have hoth : ∀ k, k ≠ p → (w1.setCell ⟨p, 33, none⟩ (.slice a (M.ns.length + 1) c)).heap[k]? = w1.heap[k]? := fun k hk => Below.heap_setCell _ _ _ k hk
 have hT : RTouch p M { M with na := a, nc := c, ns := M.ns ++ [m] } w (w1.setCell ⟨p, 33, none⟩ (.slice a (M.ns.length + 1) c)) := by
  refine ⟨hg.os, hg.tape, hg.output, by simpa using hs, fun k hk hno => (hoth k (fun e => hno (.inl e))).trans (hg.block k hk (fun e => hno (.inr (.inr (.inr (.inl e.symm)))))), fun k hk => ?_⟩;rcases hk with e | e | e | e | e
  ·exact .inl (.inl e)
  ·exact .inl (.inr (.inl e))
  ·exact .inl (.inr (.inr (.inl e)))
  ·rcases ha with h9 | h9
   ·exact .inl (.inr (.inr (.inr (.inl (h9.symm.trans e)))))
   ·right; rw [h9] at e; injection e with e; omega
  ·exact .inl (.inr (.inr (.inr (.inr e))))
 have h9 := heap_setCell_same w1 p 33 _ _ (.slice a (M.ns.length + 1) c) hrow;refine ⟨⟨h.sv.cp rfl rfl rfl, ?_, h.lnKeep hT ((hoth _ a1).trans (hg.block _ hlb (fun e => a5 e.symm))) fun k hk => ?_, h.keeps hT h.st, ?_, fun x hx => ?_, by simp [h.nq], own_mv9 h.ou fun g hgg => ?_, h.oq, h.postKeep hT rfl rfl⟩, hT⟩
 ·rw [h9, ← rcells_setTail (R := R) (R' := { R with news := R.news ++ [m.b] }) (M := M) (M' := { M with na := a, nc := c, ns := M.ns ++ [m] }) h.sv (j := 1) (x := .slice a (M.ns.length + 1) c) (by omega) (by simp [rtail]) rfl rfl rfl rfl]
  simp
 ·obtain ⟨cur, hc⟩ := own_kind h.ln.own hk;exact (hoth k (fun e => a2 (by rw [← e]; exact hk))).trans (hg.block k (Array.getElem?_eq_some_iff.1 hc).1 (fun e => (a7 k hk).1 e.symm))
 ·rw [show (M.ns ++ [m]).length = M.ns.length + 1 by simp, List.map_append];refine own_mv9 ho fun g hgg => hoth g (fun e => ?_)
  rw [ownBlock_eq] at hgg;rcases ha with h8 | h8
  ·exact a3 (by rw [← h8, hgg, e])
  ·rw [h8] at hgg; injection hgg with hgg; omega
 ·simp only [List.mem_append, List.mem_singleton] at hx;rcases hx with hx | rfl
  ·exact h.keeps hT (h.nb x hx)
  ·exact h.keeps hT hm
 ·rw [ownBlock_eq] at hgg;obtain ⟨cur, hc⟩ := own_kind h.ou hgg;exact (hoth g (fun e => a4 (by rw [← e]; exact hgg))).trans (hg.block g (Array.getElem?_eq_some_iff.1 hc).1 (fun e => a8 g e.symm hgg))
theorem RfAt.posted (h : RfAt w p R M) {w1 : World} {a : Option Addr} {c : Nat} {m : MPost} (hmA : m.At w) (hmN : ∀ k, m.ia.map (·.block) = some k → ¬ M.own p k) (ho : w1.ownsRow 0 102 9 (.slice a (M.on + 1) c) (M.on + 1) (M.ocs ++ m.cells))
  (hg : w.grownBy w1 (Value.slice M.oa M.on M.oc).ownBlock) (ha : (Value.slice a (M.on + 1) c).ownBlock = (Value.slice M.oa M.on M.oc).ownBlock ∨ (Value.slice a (M.on + 1) c).ownBlock = some w.heap.size) :
  RfAt (w1.setCell ⟨p, 34, none⟩ (.slice a (M.on + 1) c)) p { R with out := R.out ++ [m.p] } { M with oa := a, on := M.on + 1, oc := c, ocs := M.ocs ++ m.cells, ps := M.ps ++ [m] } ∧ RTouch p M { M with oa := a, on := M.on + 1, oc := c, ocs := M.ocs ++ m.cells, ps := M.ps ++ [m] } w (w1.setCell ⟨p, 34, none⟩ (.slice a (M.on + 1) c)) := by
 have hp := h.lt;have hs := hg.size;rw [ownBlock_eq] at hg ha;rw [ownBlock_eq] at ha;obtain ⟨a1, a2, a3, a4, a5, a6, a7, a8⟩ := h.apart;have hlb : M.lb < w.heap.size := (Array.getElem?_eq_some_iff.1 h.ln.row).1;have hrow : w1.heap[p]? = some (.cells (rcells R M).toArray 84 (0, 0)) := (hg.block p hp (fun e => a4 e.symm)).trans h.row;have hoth : ∀ k, k ≠ p → (w1.setCell ⟨p, 34, none⟩ (.slice a (M.on + 1) c)).heap[k]? = w1.heap[k]? := fun k hk => Below.heap_setCell _ _ _ k hk
 have hT : RTouch p M { M with oa := a, on := M.on + 1, oc := c, ocs := M.ocs ++ m.cells, ps := M.ps ++ [m] } w (w1.setCell ⟨p, 34, none⟩ (.slice a (M.on + 1) c)) := by
  refine ⟨hg.os, hg.tape, hg.output, by simpa using hs, fun k hk hno => (hoth k (fun e => hno (.inl e))).trans (hg.block k hk (fun e => hno (.inr (.inr (.inr (.inr e.symm)))))), fun k hk => ?_⟩;rcases hk with e | e | e | e | e
  ·exact .inl (.inl e)
  ·exact .inl (.inr (.inl e))
  ·exact .inl (.inr (.inr (.inl e)))
  ·exact .inl (.inr (.inr (.inr (.inl e))))
  ·rcases ha with h9 | h9
   ·exact .inl (.inr (.inr (.inr (.inr (h9.symm.trans e)))))
   ·right; rw [h9] at e; injection e with e; omega
 have h9 := heap_setCell_same w1 p 34 _ _ (.slice a (M.on + 1) c) hrow;refine ⟨⟨h.sv.cp rfl rfl rfl, ?_, h.lnKeep hT ((hoth _ a1).trans (hg.block _ hlb (fun e => a6 e.symm))) fun k hk => ?_, h.keeps hT h.st, own_mv9 h.nw fun g hgg => ?_, fun x hx => h.keeps hT (h.nb x hx), h.nq, ?_, by simp [h.oq], ⟨by simp [h.po.q], by simp [h.po.c], fun z hz => ?_, fun z hz k hk ho9 => ?_⟩⟩, hT⟩
 ·rw [h9, ← rcells_setTail (R := R) (R' := { R with out := R.out ++ [m.p] }) (M := M) (M' := { M with oa := a, on := M.on + 1, oc := c, ocs := M.ocs ++ m.cells, ps := M.ps ++ [m] }) h.sv (j := 2) (x := .slice a (M.on + 1) c) (by omega) (by simp [rtail]) rfl rfl rfl rfl]
  simp
 ·obtain ⟨cur, hc⟩ := own_kind h.ln.own hk;exact (hoth k (fun e => a2 (by rw [← e]; exact hk))).trans (hg.block k (Array.getElem?_eq_some_iff.1 hc).1 (fun e => (a7 k hk).2 e.symm))
 ·rw [ownBlock_eq] at hgg;obtain ⟨cur, hc⟩ := own_kind h.nw hgg;exact (hoth g (fun e => a3 (by rw [← e]; exact hgg))).trans (hg.block g (Array.getElem?_eq_some_iff.1 hc).1 (fun e => a8 g hgg e.symm))
 ·refine own_mv9 ho fun g hgg => hoth g (fun e => ?_)
  rw [ownBlock_eq] at hgg;rcases ha with h8 | h8
  ·exact a4 (by rw [← h8, hgg, e])
  ·rw [h8] at hgg; injection hgg with hgg; omega
 ·have hz9 : z.At w ∧ ∀ k, z.ia.map (·.block) = some k → ¬ M.own p k := by
   simp only [List.mem_append, List.mem_singleton] at hz;rcases hz with hz | rfl
   ·exact ⟨h.po.m z hz, h.po.n z hz⟩
   ·exact ⟨hmA, hmN⟩
  exact hz9.1.kept (fun k hk => hT.block k (hz9.1.block hk) (hz9.2 k hk)) (fun k cs fr hk hc => hT.block k hk (h.notU8 hc)) hT.size
 ·have hz9 : z.At w ∧ ∀ k, z.ia.map (·.block) = some k → ¬ M.own p k := by
   simp only [List.mem_append, List.mem_singleton] at hz;rcases hz with hz | rfl
   ·exact ⟨h.po.m z hz, h.po.n z hz⟩
   ·exact ⟨hmA, hmN⟩
  have hl := hz9.1.block hk;rcases hT.fresh k ho9 with h9 | h9
  ·exact hz9.2 k hk h9
  ·omega
theorem RfAt.lined (h : RfAt w p R M) {w1 : World} {x : PLine} (hl : LineTo 0 M.lb x (Value.slice M.la M.ms.length M.lc).ownBlock w w1) : ∃ la lc ms, RfAt w1 p { R with line := x } { M with la := la, lc := lc, ms := ms } ∧ RTouch p M { M with la := la, lc := lc, ms := ms } w w1 := by
 obtain ⟨la, lc, ms, hln, ht, hf⟩ := hl;simp only [ownBlock_eq] at ht hf;obtain ⟨a1, a2, a3, a4, a5, a6, a7, a8⟩ := h.apart;have hT : RTouch p M { M with la := la, lc := lc, ms := ms } w w1 := by
  refine ⟨ht.os, ht.tape, ht.output, ht.size, fun k hk hno => ht.block k hk (fun e => hno (.inr (.inl e))) (fun e => hno (.inr (.inr (.inl e.symm)))), fun k hk => ?_⟩;rcases hk with e | e | e | e | e
  ·exact .inl (.inl e)
  ·exact .inl (.inr (.inl e))
  ·rcases hf k e with h9 | h9
   ·exact .inl (.inr (.inr (.inl h9)))
   ·exact .inr h9
  ·exact .inl (.inr (.inr (.inr (.inl e))))
  ·exact .inl (.inr (.inr (.inr (.inr e))))
 refine ⟨la, lc, ms, ⟨h.sv.cp rfl rfl rfl, (ht.block p h.lt (fun e => a1 e.symm) (fun e => a2 e.symm)).trans h.row, hln, h.keeps hT h.st, own_mv9 h.nw fun g hgg => ?_, fun m hm => h.keeps hT (h.nb m hm), h.nq, own_mv9 h.ou fun g hgg => ?_, h.oq, h.postKeep hT rfl rfl⟩, hT⟩
 ·rw [ownBlock_eq] at hgg;obtain ⟨cur, hc⟩ := own_kind h.nw hgg;exact ht.block g (Array.getElem?_eq_some_iff.1 hc).1 (fun e => a5 (by rw [← e]; exact hgg)) (fun e => (a7 g e.symm).1 hgg)
 ·rw [ownBlock_eq] at hgg;obtain ⟨cur, hc⟩ := own_kind h.ou hgg;exact ht.block g (Array.getElem?_eq_some_iff.1 hc).1 (fun e => a6 (by rw [← e]; exact hgg)) (fun e => (a7 g e.symm).2 hgg)
theorem wayR {G : World → Nat → Option Addr → Nat → Prop} {P : Prop} (F : World → Nat → Option Addr → Nat → Prop) (main : (∀ U n a c, F U n a c → G U n a c) → P) (key : ∀ U n a c, F U n a c → G U n a c) : P := main key
end
end Go.Proofs.YtogcnfhmcpkdcaaGreat
