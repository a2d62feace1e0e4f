/-
  A group of replicas in memory: its rows, its replicas, and what each turning leaves as it was. No walk.
  A group of replicas in memory: what is laid into it. No walk.
  A group of replicas in memory: rows that grow, notes and replicas that are laid anew. No walk.
  A group of replicas in memory: notes and replicas that are laid anew, and how a group is made. No walk.
  A group of replicas in memory: how it is made. No walk.
-/
import Derived.Test.YtogcnfhmcpkdcaaGreatRaftM3
namespace Go.Proofs.YtogcnfhmcpkdcaaGreat
open Go.RowKit
set_option linter.unusedVariables false
set_option linter.unusedSimpArgs false
abbrev PMail := Int × Int × List UInt8
structure PGroup where
 rs : List PRaft
 hd : List (List UInt8)
 nt : List (List (List UInt8))
 ats : List Int
 bag : List PMail
 seen : List PItem
 wh : List Int
 led : List (Int × Int)
 right : Bool
structure MMail where
 f : Int
 t : Int
 a : Option Addr
 c : Nat
 b : List UInt8
def MMail.cells (m : MMail) : List Value := [.int .i64 m.f, .int .i64 m.t, .slice m.a m.b.length m.c]
def MMail.p (m : MMail) : PMail := (m.f, m.t, m.b)
structure MNts where
 a : Option Addr
 c : Nat
 ns : List MNote
def MNts.cell (t : MNts) : Value := .slice t.a t.ns.length t.c
def MNts.p (t : MNts) : List (List UInt8) := t.ns.map MNote.b
structure GMem where
 ra : Nat → Option Addr
 rc : Nat → Nat
 ps : List (Nat × RMem)
 hs : List MNote
 ts : List MNts
 ms : List MMail
 ss : List MItem
def ptrOf (q : Nat × RMem) : Value := .pointer (some ⟨q.1, 0, none⟩)
def ledCells (p : Int × Int) : List Value := [.int .i64 p.1, .int .i64 p.2]
def rowT : Nat → TypeId
 | 0 => 25
 | 1 => 27
 | 2 => 29
 | 3 => 3
 | 4 => 99
 | 5 => 40
 | 6 => 3
 | _ => 80
def rowZ : Nat → Nat
 | 4 => 3
 | 5 => 2
 | 7 => 2
 | _ => 1
def rowN (G : PGroup) (M : GMem) : Nat → Nat
 | 0 => M.ps.length
 | 1 => M.hs.length
 | 2 => M.ts.length
 | 3 => G.ats.length
 | 4 => M.ms.length
 | 5 => M.ss.length
 | 6 => G.wh.length
 | _ => G.led.length
def rowX (G : PGroup) (M : GMem) : Nat → List Value
 | 0 => M.ps.map ptrOf
 | 1 => M.hs.map MNote.cell
 | 2 => M.ts.map MNts.cell
 | 3 => G.ats.map iz
 | 4 => M.ms.flatMap MMail.cells
 | 5 => cellsM M.ss
 | 6 => G.wh.map iz
 | _ => G.led.flatMap ledCells
def rowV (G : PGroup) (M : GMem) (i : Nat) : Value := .slice (M.ra i) (rowN G M i) (M.rc i)
def gcells (G : PGroup) (M : GMem) : Array Value := #[rowV G M 0, rowV G M 1, rowV G M 2, rowV G M 3, rowV G M 4, rowV G M 5, rowV G M 6, rowV G M 7, .bool G.right]
inductive GN
 | g
 | row (i : Nat)
 | raft (i : Nat)
 | nts (i : Nat)
def GMem.own (g : Nat) (M : GMem) : GN → Nat → Prop
 | .g, k => k = g
 | .row i, k => i < 8 ∧ (M.ra i).map (·.block) = some k
 | .raft i, k => ∃ q : Nat × RMem, M.ps[i]? = some q ∧ q.2.own q.1 k
 | .nts i, k => ∃ t : MNts, M.ts[i]? = some t ∧ t.a.map (·.block) = some k
structure GCont (w : World) (G : PGroup) (M : GMem) : Prop where
 hq : M.hs.map MNote.b = G.hd
 hb : ∀ m ∈ M.hs, ByAt w m.a m.c m.b
 tq : M.ts.map MNts.p = G.nt
 tr : ∀ t ∈ M.ts, w.ownsRow 0 27 1 t.cell t.ns.length (t.ns.map MNote.cell)
 tb : ∀ t ∈ M.ts, ∀ m ∈ t.ns, ByAt w m.a m.c m.b
 bq : M.ms.map MMail.p = G.bag
 bb : ∀ m ∈ M.ms, ByAt w m.a m.c m.b
 sq : M.ss.map MItem.it = G.seen
 sb : ∀ m ∈ M.ss, OwnBs 5 w m
structure GrAt (w : World) (B g c : Nat) (G : PGroup) (M : GMem) : Prop where
 row : w.heap[g]? = some (.cells (gcells G M) 67 (0, 0))
 rows : ∀ i, i < 8 → w.ownsRow 0 (rowT i) (rowZ i) (rowV G M i) (rowN G M i) (rowX G M i)
 rl : M.ps.length = G.rs.length
 rf : ∀ (i : Nat) (R : PRaft) (q : Nat × RMem), G.rs[i]? = some R → M.ps[i]? = some q → RfAt w q.1 R q.2
 eo : ∀ (i : Nat) (q : Nat × RMem), i ≠ c → M.ps[i]? = some q → q.2.ps = []
 ct : GCont w G M
 inn : ∀ x k, M.own g x k → B ≤ k
 dis : ∀ x y k, M.own g x k → M.own g y k → x = y
 bs : B ≤ w.heap.size
structure GFr (g : Nat) (M : GMem) (S : GN → Prop) (w w' : World) : Prop where
 os : w'.os = w.os
 tape : w'.tape = w.tape
 output : w'.output = w.output
 size : w.heap.size ≤ w'.heap.size
 block : ∀ k, k < w.heap.size → (∀ x, M.own g x k → ¬ S x) → w'.heap[k]? = w.heap[k]?
theorem typesG : (67 : Nat) ≠ 5 ∧ (25 : Nat) ≠ 5 ∧ (27 : Nat) ≠ 5 ∧ (29 : Nat) ≠ 5 ∧ (3 : Nat) ≠ 5 ∧ (99 : Nat) ≠ 5 ∧ (40 : Nat) ≠ 5 ∧ (80 : Nat) ≠ 5 := by decide
section
variable {w w' : World} {B g c : Nat} {G G' : PGroup} {M M' : GMem} {S : GN → Prop}
theorem rowT_notU8 (i : Nat) : (rowT i : Nat) ≠ 5 := by
 obtain ⟨-, t1, t2, t3, t4, t5, t6, t7⟩ := typesG;unfold rowT;split <;> assumption
theorem GrAt.owned (h : GrAt w B g c G M) {x : GN} {k : Nat} (hx : M.own g x k) : ∃ cs T fr, w.heap[k]? = some (.cells cs T fr) ∧ (T : Nat) ≠ 5 := by
 cases x with
 | g =>
  have hx : k = g := hx;subst hx;exact ⟨_, _, _, h.row, typesG.1⟩
 | row i =>
  obtain ⟨hi, hk⟩ : i < 8 ∧ (M.ra i).map (·.block) = some k := hx;obtain ⟨cur, hc⟩ := own_kind (h.rows i hi) hk;exact ⟨_, _, _, hc, rowT_notU8 i⟩
 | raft i =>
  obtain ⟨q, hq, ho⟩ : ∃ q : Nat × RMem, M.ps[i]? = some q ∧ q.2.own q.1 k := hx;have hi : i < G.rs.length := by rw [← h.rl]; exact (List.getElem?_eq_some_iff.1 hq).1
  have hr := h.rf i _ q (List.getElem?_eq_getElem hi) hq;obtain ⟨t1, t2, t3, t4, t5, t6, t7, t8, t9, t10, t11, t12, t13, t14, t15⟩ := types18;rcases ho with e | e | e | e | e
  ·rw [e]; exact ⟨_, _, _, hr.row, t5⟩
  ·rw [e]; exact ⟨_, _, _, hr.ln.row, t9⟩
  ·obtain ⟨cur, hc⟩ := own_kind hr.ln.own e; exact ⟨_, _, _, hc, t12⟩
  ·obtain ⟨cur, hc⟩ := own_kind hr.nw e; exact ⟨_, _, _, hc, t14⟩
  ·obtain ⟨cur, hc⟩ := own_kind hr.ou e; exact ⟨_, _, _, hc, t15⟩
 | nts i =>
  obtain ⟨t, ht, hk⟩ : ∃ t : MNts, M.ts[i]? = some t ∧ t.a.map (·.block) = some k := hx;obtain ⟨cur, hc⟩ := own_kind (h.ct.tr t (List.mem_of_getElem? ht)) hk;exact ⟨_, _, _, hc, typesG.2.2.1⟩
theorem GrAt.lt (h : GrAt w B g c G M) {x : GN} {k : Nat} (hx : M.own g x k) : k < w.heap.size := by
 obtain ⟨cs, T, fr, hc, -⟩ := h.owned hx;exact (Array.getElem?_eq_some_iff.1 hc).1
theorem GrAt.notU8 (h : GrAt w B g c G M) {x : GN} {k : Nat} (hx : M.own g x k) {cs : Array Value} {fr : Nat × Nat} (hc : w.heap[k]? = some (.cells cs 5 fr)) : False := by
 obtain ⟨cs', T, fr', hc', hT⟩ := h.owned hx;exact hT (kind_eq hc' hc)
theorem GrAt.u8 (h : GrAt w B g c G M) (hf : GFr g M S w w') : ∀ k cs fr, k < w.heap.size → w.heap[k]? = some (.cells cs 5 fr) → w'.heap[k]? = w.heap[k]? :=
 fun k cs fr hk hc => hf.block k hk (fun x hx => (h.notU8 hx hc).elim)
theorem GrAt.bytes (h : GrAt w B g c G M) (hf : GFr g M S w w') {a : Option Addr} {n : Nat} {l : List UInt8} (hb : ByAt w a n l) : ByAt w' a n l := OwnBs.grown (T := 5) hb (h.u8 hf) hf.size
theorem GrAt.item (h : GrAt w B g c G M) (hf : GFr g M S w w') {m : MItem} (hb : OwnBs 5 w m) : OwnBs 5 w' m := OwnBs.grown (T := 5) hb (h.u8 hf) hf.size
theorem GrAt.stay (h : GrAt w B g c G M) (hf : GFr g M S w w') {x : GN} {k : Nat} (hx : M.own g x k) (hs : ¬ S x) : w'.heap[k]? = w.heap[k]? :=
 hf.block k (h.lt hx) (fun y hy hS => hs (h.dis x y k hx hy ▸ hS))
theorem GrAt.rowStay (h : GrAt w B g c G M) (hf : GFr g M S w w') {i : Nat} (hi : i < 8) (hs : ¬ S (.row i)) : w'.ownsRow 0 (rowT i) (rowZ i) (rowV G M i) (rowN G M i) (rowX G M i) :=
 own_mv9 (h.rows i hi) fun k hk => h.stay hf (x := .row i) ⟨hi, by rw [rowV, ownBlock_eq] at hk; exact hk⟩ hs
theorem GrAt.ntsStay (h : GrAt w B g c G M) (hf : GFr g M S w w') {i : Nat} {t : MNts} (ht : M.ts[i]? = some t) (hs : ¬ S (.nts i)) : w'.ownsRow 0 27 1 t.cell t.ns.length (t.ns.map MNote.cell) :=
 own_mv9 (h.ct.tr t (List.mem_of_getElem? ht)) fun k hk => h.stay hf (x := .nts i) ⟨t, ht, by rw [MNts.cell, ownBlock_eq] at hk; exact hk⟩ hs
theorem GrAt.raftStay (h : GrAt w B g c G M) (hf : GFr g M S w w') {i : Nat} {R : PRaft} {q : Nat × RMem} (hR : G.rs[i]? = some R) (hq : M.ps[i]? = some q) (hs : ¬ S (.raft i)) (hl : ∀ m ∈ q.2.ps, ∀ k, m.ia.map (·.block) = some k → w'.heap[k]? = w.heap[k]?) : RfAt w' q.1 R q.2 := by
 have hr := h.rf i R q hR hq;have hb : ∀ k, q.2.own q.1 k → w'.heap[k]? = w.heap[k]? := fun k hk => h.stay hf (x := .raft i) ⟨q, hq, hk⟩ hs
 have hu := h.u8 hf;refine ⟨hr.sv, (hb _ (.inl rfl)).trans hr.row, ⟨(hb _ (.inr (.inl rfl))).trans hr.ln.row, own_mv9 hr.ln.own fun k hk => hb k (.inr (.inr (.inl (by rw [ownBlock_eq] at hk; exact hk)))), hr.ln.its, fun m hm => OwnBs.grown (T := 5) (hr.ln.bs m hm) hu hf.size, Nat.zero_le _⟩, OwnBs.grown (T := 5) hr.st hu hf.size, own_mv9 hr.nw fun k hk => hb k (.inr (.inr (.inr (.inl (by rw [ownBlock_eq] at hk; exact hk))))), fun m hm => OwnBs.grown (T := 5) (hr.nb m hm) hu hf.size, hr.nq, own_mv9 hr.ou fun k hk => hb k (.inr (.inr (.inr (.inr (by rw [ownBlock_eq] at hk; exact hk))))), hr.oq, ⟨hr.po.q, hr.po.c, fun m hm => (hr.po.m m hm).kept (hl m hm) hu hf.size, hr.po.n⟩⟩
theorem GrAt.letters (h : GrAt w B g c G M) (hf : GFr g M S w w') {i : Nat} {R : PRaft} {q : Nat × RMem} (hR : G.rs[i]? = some R) (hq : M.ps[i]? = some q) (hS : ∀ x k cs fr, S x → M.own g x k → w.heap[k]? = some (.cells cs 40 fr) → False) : ∀ m ∈ q.2.ps, ∀ k, m.ia.map (·.block) = some k → w'.heap[k]? = w.heap[k]? := fun m hm k hk => by
 have hr := h.rf i R q hR hq;obtain ⟨cur, hc⟩ := own_kind (hr.po.m m hm).own.own hk;exact hf.block k ((hr.po.m m hm).block hk) (fun x hx hs => hS x k _ _ hs hx hc)
theorem GrAt.contStay (h : GrAt w B g c G M) (hf : GFr g M S w w') (hs : ∀ i, ¬ S (.nts i)) : GCont w' G M :=
 ⟨h.ct.hq, fun m hm => h.bytes hf (h.ct.hb m hm), h.ct.tq, fun t ht => by
  obtain ⟨i, hi⟩ := List.getElem?_of_mem ht;exact h.ntsStay hf hi (hs i), fun t ht m hm => h.bytes hf (h.ct.tb t ht m hm), h.ct.bq, fun m hm => h.bytes hf (h.ct.bb m hm), h.ct.sq, fun m hm => h.item hf (h.ct.sb m hm)⟩
theorem GFr.below (hb : Below w.heap.size w w') : GFr g M S w w' := ⟨hb.os, hb.tape, hb.output, hb.size, fun k hk _ => hb.block k hk⟩
theorem GrAt.below (h : GrAt w B g c G M) (hb : Below w.heap.size w w') : GrAt w' B g c G M := by
 have hf : GFr g M (fun _ => False) w w' := GFr.below hb;exact ⟨(hb.block g (h.lt (x := .g) rfl)).trans h.row, fun i hi => h.rowStay hf hi id, h.rl, fun i R q hR hq => (h.rf i R q hR hq).below hb, h.eo, h.contStay hf (fun _ => id), h.inn, h.dis, Nat.le_trans h.bs hb.size⟩
theorem GrAt.cur (h : GrAt w B g c G M) (he : ∀ q : Nat × RMem, M.ps[c]? = some q → q.2.ps = []) (c' : Nat) : GrAt w B g c' G M :=
 ⟨h.row, h.rows, h.rl, h.rf, fun i q _ hq => by
  by_cases e : i = c
  ·subst e; exact he q hq
  ·exact h.eo i q e hq, h.ct, h.inn, h.dis, h.bs⟩
end
end Go.Proofs.YtogcnfhmcpkdcaaGreat
namespace Go.Proofs.YtogcnfhmcpkdcaaGreat
open Go.RowKit
set_option linter.unusedVariables false
set_option linter.unusedSimpArgs false
section
variable {w w' : World} {B g c : Nat} {G G' : PGroup} {M M' : GMem} {S : GN → Prop}
theorem GrAt.apart (h : GrAt w B g c G M) {x : GN} (h1 : ∀ y k, y ≠ x → M'.own g y k → M.own g y k) (h2 : ∀ k, M'.own g x k → M.own g x k ∨ (B ≤ k ∧ ∀ y, ¬ M.own g y k)) : (∀ y k, M'.own g y k → B ≤ k) ∧ ∀ y z k, M'.own g y k → M'.own g z k → y = z := by
 have key : ∀ y k, M'.own g y k → M.own g y k ∨ (y = x ∧ B ≤ k ∧ ∀ z, ¬ M.own g z k) := fun y k hk => by
  by_cases e : y = x
  ·subst e;rcases h2 k hk with a | a
   ·exact .inl a
   ·exact .inr ⟨rfl, a⟩
  ·exact .inl (h1 y k e hk)
 refine ⟨fun y k hk => ?_, fun y z k hy hz => ?_⟩
 ·rcases key y k hk with a | ⟨-, a, -⟩
  ·exact h.inn y k a
  ·exact a
 ·rcases key y k hy with a | ⟨ey, -, a⟩ <;> rcases key z k hz with b | ⟨ez, -, b⟩
  ·exact h.dis y z k a b
  ·exact absurd a (b y)
  ·exact absurd b (a z)
  ·rw [ey, ez]
theorem GrAt.free (h : GrAt w B g c G M) {k : Nat} (hk : w.heap.size ≤ k) : B ≤ k ∧ ∀ y, ¬ M.own g y k := ⟨by have := h.bs; omega, fun y hy => by have := h.lt hy; omega⟩
theorem set_get {α : Type} {l : List α} {i j : Nat} {x : α} (hi : i < l.length) : (l.set i x)[j]? = if j = i then some x else l[j]? := by
 rw [List.getElem?_set];by_cases e : i = j
 ·subst e; rw [if_pos rfl, if_pos hi, if_pos rfl]
 ·rw [if_neg e, if_neg (fun h => e h.symm)]
theorem map_set_same {α β : Type} (f : α → β) {l : List α} {i : Nat} {x y : α} (hx : l[i]? = some x) (hf : f y = f x) : (l.set i y).map f = l.map f := by
 apply List.ext_getElem?;intro j;rw [List.getElem?_map, List.getElem?_map, set_get (List.getElem?_eq_some_iff.1 hx).1];by_cases e : j = i
 ·subst e; rw [if_pos rfl, hx]; simp [hf]
 ·rw [if_neg e]
theorem GrAt.putRaft {i : Nat} {R R' : PRaft} {p : Nat} {N N' : RMem} (h : GrAt w B g i G M) (hR : G.rs[i]? = some R) (hq : M.ps[i]? = some (p, N)) (hr : RfAt w' p R' N') (ht : RTouch p N N' w w') :
  GrAt w' B g i { G with rs := G.rs.set i R' } { M with ps := M.ps.set i (p, N') } := by
 have hli : i < M.ps.length := (List.getElem?_eq_some_iff.1 hq).1;have hlr : i < G.rs.length := (List.getElem?_eq_some_iff.1 hR).1;have hf : GFr g M (fun x => x = .raft i) w w' := ⟨ht.os, ht.tape, ht.output, ht.size, fun k hk hx => ht.block k hk (fun ho => hx (.raft i) ⟨_, hq, ho⟩ rfl)⟩
 have hX : ∀ j, rowX { G with rs := G.rs.set i R' } { M with ps := M.ps.set i (p, N') } j = rowX G M j := fun j => by
  unfold rowX; split <;> first | rfl | exact map_set_same ptrOf hq rfl
 have hN : ∀ j, rowN { G with rs := G.rs.set i R' } { M with ps := M.ps.set i (p, N') } j = rowN G M j := fun j => by
  unfold rowN; split <;> first | rfl | simp
 have hV : ∀ j, rowV { G with rs := G.rs.set i R' } { M with ps := M.ps.set i (p, N') } j = rowV G M j := fun j => by
  unfold rowV; rw [hN]
 have hown : ∀ y k, y ≠ .raft i → ({ M with ps := M.ps.set i (p, N') } : GMem).own g y k → M.own g y k := fun y k hy hk => by
  cases y with
  | g => exact hk
  | row j => exact hk
  | nts j => exact hk
  | raft j =>
   obtain ⟨q, h1, h2⟩ : ∃ q : Nat × RMem, (M.ps.set i (p, N'))[j]? = some q ∧ q.2.own q.1 k := hk;rw [set_get hli, if_neg (fun e => hy (by rw [e]))] at h1;exact ⟨q, h1, h2⟩
 obtain ⟨hinn, hdis⟩ := h.apart (M' := { M with ps := M.ps.set i (p, N') }) (x := .raft i) hown (fun k hk => by
  obtain ⟨q, h1, h2⟩ : ∃ q : Nat × RMem, (M.ps.set i (p, N'))[i]? = some q ∧ q.2.own q.1 k := hk;rw [set_get hli, if_pos rfl] at h1;injection h1 with h1; subst h1
  rcases ht.fresh k h2 with h9 | h9
  ·exact .inl ⟨_, hq, h9⟩
  ·exact .inr (h.free h9))
 refine ⟨?_, fun j hj => ?_, by simp [h.rl], fun j Rj q h1 h2 => ?_, fun j q hj h2 => ?_, ?_, hinn, hdis, Nat.le_trans h.bs ht.size⟩
 ·rw [show gcells { G with rs := G.rs.set i R' } { M with ps := M.ps.set i (p, N') } = gcells G M by unfold gcells; simp only [hV]];exact (h.stay hf (x := .g) rfl (fun e => by cases e)).trans h.row
 ·rw [hV, hN, hX];exact h.rowStay hf hj (fun e => by cases e)
 ·have h1 : (G.rs.set i R')[j]? = some Rj := h1;have h2 : (M.ps.set i (p, N'))[j]? = some q := h2;rw [set_get hlr] at h1;rw [set_get hli] at h2;by_cases e : j = i
  ·rw [if_pos e] at h1 h2;injection h1 with h1; injection h2 with h2
   subst h1 h2;exact hr
  ·rw [if_neg e] at h1 h2;exact h.raftStay hf h1 h2 (fun e9 => by injection e9 with e9; exact e e9) (by rw [h.eo j q e h2]; simp)
 ·have h2 : (M.ps.set i (p, N'))[j]? = some q := h2;rw [set_get hli, if_neg hj] at h2;exact h.eo j q hj h2
 ·have hct := h.contStay hf (fun j e => by cases e);exact ⟨hct.hq, hct.hb, hct.tq, hct.tr, hct.tb, hct.bq, hct.bb, hct.sq, hct.sb⟩
theorem GrAt.putRow {i : Nat} (hi : i < 8) (h : GrAt w B g c G M) (hf : GFr g M (fun x => x = .g ∨ x = .row i) w w') (hrow : w'.heap[g]? = some (.cells (gcells G' M') 67 (0, 0)))
  (hown : w'.ownsRow 0 (rowT i) (rowZ i) (rowV G' M' i) (rowN G' M' i) (rowX G' M' i)) (hN : ∀ j, j < 8 → j ≠ i → rowN G' M' j = rowN G M j) (hX : ∀ j, j < 8 → j ≠ i → rowX G' M' j = rowX G M j) (hra : ∀ j, j ≠ i → M'.ra j = M.ra j) (hrc : ∀ j, j ≠ i → M'.rc j = M.rc j)
  (hnew : ∀ k, (M'.ra i).map (·.block) = some k → (M.ra i).map (·.block) = some k ∨ w.heap.size ≤ k) (hps : M'.ps = M.ps) (hrs : G'.rs = G.rs) (hts : ∀ (j : Nat) (t : MNts), M'.ts[j]? = some t → t.a ≠ none → M.ts[j]? = some t) (hct : GCont w' G' M') (hl : i ≠ 5 ∨ ∀ q : Nat × RMem, M.ps[c]? = some q → q.2.ps = []) : GrAt w' B g c G' M' := by
 have hownE : ∀ y k, y ≠ .row i → M'.own g y k → M.own g y k := fun y k hy hk => by
  cases y with
  | g => exact hk
  | row j =>
   obtain ⟨h1, h2⟩ : j < 8 ∧ (M'.ra j).map (·.block) = some k := hk;rw [hra j (fun e => hy (by rw [e]))] at h2;exact ⟨h1, h2⟩
  | nts j =>
   obtain ⟨t, h1, h2⟩ : ∃ t : MNts, M'.ts[j]? = some t ∧ t.a.map (·.block) = some k := hk;exact ⟨t, hts j t h1 (fun e => by rw [e] at h2; cases h2), h2⟩
  | raft j =>
   obtain ⟨q, h1, h2⟩ : ∃ q : Nat × RMem, M'.ps[j]? = some q ∧ q.2.own q.1 k := hk;rw [hps] at h1;exact ⟨q, h1, h2⟩
 obtain ⟨hinn, hdis⟩ := h.apart (M' := M') (x := .row i) hownE (fun k hk => by
  obtain ⟨h1, h2⟩ : i < 8 ∧ (M'.ra i).map (·.block) = some k := hk;rcases hnew k h2 with h9 | h9
  ·exact .inl ⟨hi, h9⟩
  ·exact .inr (h.free h9))
 refine ⟨hrow, fun j hj => ?_, by rw [hps, hrs]; exact h.rl, fun j Rj q h1 h2 => ?_, fun j q hj h2 => h.eo j q hj (by rw [← hps]; exact h2), hct, hinn, hdis, Nat.le_trans h.bs hf.size⟩
 ·by_cases e : j = i
  ·subst e; exact hown
  ·rw [show rowV G' M' j = rowV G M j by unfold rowV; rw [hra j e, hrc j e, hN j hj e], hN j hj e, hX j hj e];exact h.rowStay hf hj (fun e9 => by rcases e9 with e9 | e9 <;> cases e9; exact e rfl)
 ·rw [hrs] at h1;rw [hps] at h2;refine h.raftStay hf h1 h2 (fun e9 => by rcases e9 with e9 | e9 <;> cases e9) ?_;by_cases e : j = c
  ·rcases hl with h5 | h5
   ·refine h.letters hf h1 h2 (fun x k cs fr hS hx hc => ?_);rcases hS with e9 | e9
    ·subst e9;have hx : k = g := hx;subst hx;have h8 := kind_eq h.row hc;exact absurd h8 (by decide)
    ·subst e9;obtain ⟨h6, h7⟩ : i < 8 ∧ (M.ra i).map (·.block) = some k := hx;obtain ⟨cur, h8⟩ := own_kind (h.rows i h6) h7;have h9 := kind_eq h8 hc;have h10 : i = 0 ∨ i = 1 ∨ i = 2 ∨ i = 3 ∨ i = 4 ∨ i = 6 ∨ i = 7 := by omega
     rcases h10 with rfl | rfl | rfl | rfl | rfl | rfl | rfl <;> exact absurd h9 (by decide)
   ·subst e;rw [h5 q h2]; simp
  ·rw [h.eo j q e h2]; simp
theorem GrAt.setRight (h : GrAt w B g c G M) (b : Bool) : GrAt (w.setCell ⟨g, 8, none⟩ (.bool b)) B g c { G with right := b } M := by
 have hoth : ∀ k, k ≠ g → (w.setCell ⟨g, 8, none⟩ (.bool b)).heap[k]? = w.heap[k]? := fun k hk => Below.heap_setCell _ _ _ k hk
 have hf : GFr g M (fun x => x = .g ∨ x = .row 0) w (w.setCell ⟨g, 8, none⟩ (.bool b)) := ⟨rfl, rfl, rfl, by simp, fun k hk hx => hoth k (fun e => hx .g e (.inl rfl))⟩
 have hf0 : GFr g M (fun x => x = .g) w (w.setCell ⟨g, 8, none⟩ (.bool b)) := ⟨rfl, rfl, rfl, by simp, fun k hk hx => hoth k (fun e => hx .g e rfl)⟩
 have hX : ∀ j, rowX { G with right := b } M j = rowX G M j := fun j => by unfold rowX; split <;> rfl
 have hN : ∀ j, rowN { G with right := b } M j = rowN G M j := fun j => by unfold rowN; split <;> rfl
 have hV : ∀ j, rowV { G with right := b } M j = rowV G M j := fun j => by unfold rowV; rw [hN]
 have h0 := h.rowStay hf0 (i := 0) (by omega) (fun e => by cases e);have hct := h.contStay hf0 (fun j e => by cases e);refine h.putRow (i := 0) (by omega) hf ?_ (by rw [hV, hN, hX]; exact h0) (fun j _ _ => hN j) (fun j _ _ => hX j) (fun _ _ => rfl) (fun _ _ => rfl) (fun k hk => .inl hk) rfl rfl (fun _ _ h _ => h) ⟨hct.hq, hct.hb, hct.tq, hct.tr, hct.tb, hct.bq, hct.bb, hct.sq, hct.sb⟩ (.inl (by omega));rw [heap_setCell_same w g 8 _ _ (.bool b) h.row]
 congr 2
theorem GrAt.stored (h : GrAt w B g c G M) {i : Nat} (hi : i < 8) {b cap : Nat} (hv : rowV G M i = .slice (some ⟨b, 0, none⟩) (rowN G M i) cap) (j : Nat) (u : Value) :
  (w.setCell ⟨b, j, none⟩ u).ownsRow 0 (rowT i) (rowZ i) (rowV G M i) (rowN G M i) ((rowX G M i).set j u) ∧ GFr g M (fun x => x = .g ∨ x = .row i) w (w.setCell ⟨b, j, none⟩ u) ∧ GFr g M (fun x => x = .row i) w (w.setCell ⟨b, j, none⟩ u) ∧ b ≠ g := by
 have h1 := h.rows i hi;rw [hv] at h1;obtain ⟨h2, h3⟩ := h1.stored j u;have hb : (M.ra i).map (·.block) = some b := by
  unfold rowV at hv; injection hv with e1 _ _; rw [e1]; rfl
 refine ⟨by rw [hv]; exact h2, ⟨h3.os, h3.tape, h3.output, h3.size, fun k hk hx => h3.block k hk (fun e => ?_)⟩, ⟨h3.os, h3.tape, h3.output, h3.size, fun k hk hx => h3.block k hk (fun e => ?_)⟩, fun e => ?_⟩
 ·injection e with e; subst e
  exact hx (.row i) ⟨hi, hb⟩ (.inr rfl)
 ·injection e with e; subst e
  exact hx (.row i) ⟨hi, hb⟩ rfl
 ·subst e;have := h.dis .g (.row i) b rfl ⟨hi, hb⟩;cases this
theorem rowForm (h : GrAt w B g c G M) {i : Nat} (hi : i < 8) (hn : 0 < rowN G M i) : ∃ b cap, rowV G M i = .slice (some ⟨b, 0, none⟩) (rowN G M i) cap := by
 rcases (h.rows i hi).2 with ⟨_, h0⟩ | ⟨b, cap, cur, e, -⟩
 ·omega
 ·exact ⟨b, cap, e⟩
theorem GrAt.setAt (h : GrAt w B g c G M) {i : Nat} (hi : i < G.ats.length) {b cap : Nat} (hv : rowV G M 3 = .slice (some ⟨b, 0, none⟩) G.ats.length cap) (x : Int) : GrAt (w.setCell ⟨b, i, none⟩ (iz x)) B g c { G with ats := G.ats.set i x } M := by
 obtain ⟨h1, hf, hf1, hbg⟩ := h.stored (i := 3) (by omega) hv i (iz x);have hX : ∀ j, j ≠ 3 → rowX { G with ats := G.ats.set i x } M j = rowX G M j := fun j hj => by unfold rowX; split <;> first | rfl | exact absurd rfl hj
 have hN : ∀ j, rowN { G with ats := G.ats.set i x } M j = rowN G M j := fun j => by unfold rowN; split <;> first | rfl | simp
 have hV : ∀ j, rowV { G with ats := G.ats.set i x } M j = rowV G M j := fun j => by unfold rowV; rw [hN]
 have hct := h.contStay hf1 (fun j e => by cases e);refine h.putRow (i := 3) (by omega) hf ?_ ?_ (fun j _ _ => hN j) (fun j _ => hX j) (fun _ _ => rfl) (fun _ _ => rfl) (fun k hk => .inl hk) rfl rfl (fun _ _ h _ => h) ⟨hct.hq, hct.hb, hct.tq, hct.tr, hct.tb, hct.bq, hct.bb, hct.sq, hct.sb⟩ (.inl (by omega))
 ·rw [show gcells { G with ats := G.ats.set i x } M = gcells G M by unfold gcells; simp only [hV]];exact (h.stay hf1 (x := .g) rfl (fun e => by cases e)).trans h.row
 ·rw [hV, hN, show rowX { G with ats := G.ats.set i x } M 3 = (rowX G M 3).set i (iz x) by show (G.ats.set i x).map iz = (G.ats.map iz).set i (iz x); rw [List.map_set]];exact h1
theorem GrAt.setHead (h : GrAt w B g c G M) {i : Nat} (hi : i < M.hs.length) {b cap : Nat} (hv : rowV G M 1 = .slice (some ⟨b, 0, none⟩) M.hs.length cap) (m : MNote) (hm : ByAt w m.a m.c m.b) : GrAt (w.setCell ⟨b, i, none⟩ m.cell) B g c { G with hd := G.hd.set i m.b } { M with hs := M.hs.set i m } := by
 obtain ⟨h1, hf, hf1, hbg⟩ := h.stored (i := 1) (by omega) hv i m.cell;have hX : ∀ j, j ≠ 1 → rowX { G with hd := G.hd.set i m.b } { M with hs := M.hs.set i m } j = rowX G M j := fun j hj => by unfold rowX; split <;> first | rfl | exact absurd rfl hj
 have hN : ∀ j, rowN { G with hd := G.hd.set i m.b } { M with hs := M.hs.set i m } j = rowN G M j := fun j => by unfold rowN; split <;> first | rfl | simp
 have hV : ∀ j, rowV { G with hd := G.hd.set i m.b } { M with hs := M.hs.set i m } j = rowV G M j := fun j => by unfold rowV; rw [hN]
 have hct := h.contStay hf1 (fun j e => by cases e);refine h.putRow (i := 1) (by omega) hf ?_ ?_ (fun j _ _ => hN j) (fun j _ => hX j) (fun _ _ => rfl) (fun _ _ => rfl) (fun k hk => .inl hk) rfl rfl (fun _ _ h _ => h) ⟨?_, fun y hy => ?_, hct.tq, hct.tr, hct.tb, hct.bq, hct.bb, hct.sq, hct.sb⟩ (.inl (by omega))
 ·rw [show gcells { G with hd := G.hd.set i m.b } { M with hs := M.hs.set i m } = gcells G M by unfold gcells; simp only [hV]];exact (h.stay hf1 (x := .g) rfl (fun e => by cases e)).trans h.row
 ·rw [hV, hN, show rowX { G with hd := G.hd.set i m.b } { M with hs := M.hs.set i m } 1 = (rowX G M 1).set i m.cell by show (M.hs.set i m).map MNote.cell = (M.hs.map MNote.cell).set i m.cell; rw [List.map_set]];exact h1
 ·show (M.hs.set i m).map MNote.b = G.hd.set i m.b;rw [List.map_set, h.ct.hq]
 ·rcases List.mem_or_eq_of_mem_set hy with hy | rfl
  ·exact hct.hb y hy
  ·exact h.bytes hf1 hm
end
end Go.Proofs.YtogcnfhmcpkdcaaGreat
namespace Go.Proofs.YtogcnfhmcpkdcaaGreat
open Go.RowKit
set_option linter.unusedVariables false
set_option linter.unusedSimpArgs false
section
variable {w w' w1 : World} {B g c : Nat} {G G' : PGroup} {M M' : GMem} {S : GN → Prop}
theorem gcells_set {i : Nat} (hi : i < 8) (hV : ∀ j, j < 8 → j ≠ i → rowV G' M' j = rowV G M j) (hr : G'.right = G.right) : (gcells G M).setIfInBounds i (rowV G' M' i) = gcells G' M' := by
 have e : i = 0 ∨ i = 1 ∨ i = 2 ∨ i = 3 ∨ i = 4 ∨ i = 5 ∨ i = 6 ∨ i = 7 := by omega
 unfold gcells;rcases e with rfl | rfl | rfl | rfl | rfl | rfl | rfl | rfl
 ·rw [hr, hV 1 (by omega) (by omega), hV 2 (by omega) (by omega), hV 3 (by omega) (by omega), hV 4 (by omega) (by omega), hV 5 (by omega) (by omega), hV 6 (by omega) (by omega), hV 7 (by omega) (by omega)]; rfl
 ·rw [hr, hV 0 (by omega) (by omega), hV 2 (by omega) (by omega), hV 3 (by omega) (by omega), hV 4 (by omega) (by omega), hV 5 (by omega) (by omega), hV 6 (by omega) (by omega), hV 7 (by omega) (by omega)]; rfl
 ·rw [hr, hV 0 (by omega) (by omega), hV 1 (by omega) (by omega), hV 3 (by omega) (by omega), hV 4 (by omega) (by omega), hV 5 (by omega) (by omega), hV 6 (by omega) (by omega), hV 7 (by omega) (by omega)]; rfl
 ·rw [hr, hV 0 (by omega) (by omega), hV 1 (by omega) (by omega), hV 2 (by omega) (by omega), hV 4 (by omega) (by omega), hV 5 (by omega) (by omega), hV 6 (by omega) (by omega), hV 7 (by omega) (by omega)]; rfl
 ·rw [hr, hV 0 (by omega) (by omega), hV 1 (by omega) (by omega), hV 2 (by omega) (by omega), hV 3 (by omega) (by omega), hV 5 (by omega) (by omega), hV 6 (by omega) (by omega), hV 7 (by omega) (by omega)]; rfl
 ·rw [hr, hV 0 (by omega) (by omega), hV 1 (by omega) (by omega), hV 2 (by omega) (by omega), hV 3 (by omega) (by omega), hV 4 (by omega) (by omega), hV 6 (by omega) (by omega), hV 7 (by omega) (by omega)]; rfl
 ·rw [hr, hV 0 (by omega) (by omega), hV 1 (by omega) (by omega), hV 2 (by omega) (by omega), hV 3 (by omega) (by omega), hV 4 (by omega) (by omega), hV 5 (by omega) (by omega), hV 7 (by omega) (by omega)]; rfl
 ·rw [hr, hV 0 (by omega) (by omega), hV 1 (by omega) (by omega), hV 2 (by omega) (by omega), hV 3 (by omega) (by omega), hV 4 (by omega) (by omega), hV 5 (by omega) (by omega), hV 6 (by omega) (by omega)]; rfl
def upd {α : Type} (f : Nat → α) (i : Nat) (x : α) : Nat → α := fun j => if j = i then x else f j
theorem upd_same {α : Type} (f : Nat → α) (i : Nat) (x : α) : upd f i x i = x := by simp [upd]
theorem upd_other {α : Type} (f : Nat → α) {i j : Nat} (x : α) (h : j ≠ i) : upd f i x j = f j := by simp [upd, h]
theorem GrAt.grow {i : Nat} (hi : i < 8) (h : GrAt w B g c G M) {a : Option Addr} {n' c' : Nat} {xs' : List Value} (ho : w1.ownsRow 0 (rowT i) (rowZ i) (.slice a n' c') n' xs') (hg : w.grownBy w1 (rowV G M i).ownBlock) (ha : (Value.slice a n' c').ownBlock = (rowV G M i).ownBlock ∨ (Value.slice a n' c').ownBlock = some w.heap.size)
  (hN' : rowN G' M' i = n') (hX' : rowX G' M' i = xs') (hra : M'.ra = upd M.ra i a) (hrc : M'.rc = upd M.rc i c') (hN : ∀ j, j < 8 → j ≠ i → rowN G' M' j = rowN G M j) (hX : ∀ j, j < 8 → j ≠ i → rowX G' M' j = rowX G M j) (hps : M'.ps = M.ps) (hrs : G'.rs = G.rs) (hts : ∀ (j : Nat) (t : MNts), M'.ts[j]? = some t → t.a ≠ none → M.ts[j]? = some t) (hrt : G'.right = G.right)
  (hct : ∀ w2, GFr g M (fun x => x = .g ∨ x = .row i) w w2 → GCont w2 G' M') (hl : i ≠ 5 ∨ ∀ q : Nat × RMem, M.ps[c]? = some q → q.2.ps = []) : GrAt (w1.setCell ⟨g, i, none⟩ (.slice a n' c')) B g c G' M' := by
 have hV' : rowV G' M' i = .slice a n' c' := by unfold rowV; rw [hra, hrc, hN', upd_same, upd_same]
 have hV : ∀ j, j < 8 → j ≠ i → rowV G' M' j = rowV G M j := fun j h8 hj => by unfold rowV; rw [hra, hrc, hN j h8 hj, upd_other _ _ hj, upd_other _ _ hj]
 have hgl := h.lt (x := .g) rfl;have hgr : ∀ k, (M.ra i).map (·.block) = some k → k ≠ g := fun k hk e => by
  subst e;have := h.dis .g (.row i) k rfl ⟨hi, hk⟩;cases this
 have hob : (rowV G M i).ownBlock = (M.ra i).map (·.block) := by unfold rowV; rw [ownBlock_eq]
 have hnb : (Value.slice a n' c').ownBlock = a.map (·.block) := ownBlock_eq _ _ _;rw [hob] at hg ha;rw [hnb] at ha;have hoth : ∀ k, k ≠ g → (w1.setCell ⟨g, i, none⟩ (.slice a n' c')).heap[k]? = w1.heap[k]? := fun k hk => Below.heap_setCell _ _ _ k hk
 have hf : GFr g M (fun x => x = .g ∨ x = .row i) w (w1.setCell ⟨g, i, none⟩ (.slice a n' c')) := ⟨hg.os, hg.tape, hg.output, by simpa using hg.size, fun k hk hx => by
  have h1 : k ≠ g := fun e => hx .g e (.inl rfl)
  exact (hoth k h1).trans (hg.block k hk (fun e => hx (.row i) ⟨hi, e.symm⟩ (.inr rfl)))⟩
 have hrow1 : w1.heap[g]? = some (.cells (gcells G M) 67 (0, 0)) := (hg.block g hgl (fun e => hgr g e.symm rfl)).trans h.row;refine h.putRow hi hf ?_ ?_ hN hX (fun j hj => by rw [hra, upd_other _ _ hj]) (fun j hj => by rw [hrc, upd_other _ _ hj]) (fun k hk => ?_) hps hrs hts (hct _ hf) hl
 ·rw [heap_setCell_same w1 g i _ _ (.slice a n' c') hrow1, ← hV', gcells_set hi hV hrt]
 ·rw [hV', hN', hX'];refine own_mv9 ho fun k hk => hoth k (fun e => ?_)
  rw [hnb] at hk;rcases ha with h9 | h9
  ·exact hgr k (h9.symm.trans hk) e
  ·rw [h9] at hk; injection hk with hk; omega
 ·rw [hra, upd_same] at hk;rcases ha with h9 | h9
  ·exact .inl (h9.symm.trans hk)
  ·rw [h9] at hk; injection hk with hk; exact .inr (by omega)
theorem GrAt.contTo (h : GrAt w B g c G M) {i : Nat} {w2 : World} (hf : GFr g M (fun x => x = .g ∨ x = .row i) w w2) : GCont w2 G M := h.contStay hf (fun j e => by rcases e with e | e <;> cases e)
theorem GrAt.addMail (h : GrAt w B g c G M) (m : MMail) (hm : ByAt w m.a m.c m.b) {a : Option Addr} {c' : Nat} (ho : w1.ownsRow 0 99 3 (.slice a (M.ms.length + 1) c') (M.ms.length + 1) (M.ms.flatMap MMail.cells ++ m.cells)) (hg : w.grownBy w1 (rowV G M 4).ownBlock) (ha : (Value.slice a (M.ms.length + 1) c').ownBlock = (rowV G M 4).ownBlock ∨ (Value.slice a (M.ms.length + 1) c').ownBlock = some w.heap.size) :
  GrAt (w1.setCell ⟨g, 4, none⟩ (.slice a (M.ms.length + 1) c')) B g c { G with bag := G.bag ++ [m.p] } { M with ra := upd M.ra 4 a, rc := upd M.rc 4 c', ms := M.ms ++ [m] } :=
 h.grow (i := 4) (by omega) ho hg ha (by show (M.ms ++ [m]).length = _; simp) (by show (M.ms ++ [m]).flatMap MMail.cells = _; simp) rfl rfl (fun j h8 hj => by unfold rowN; split <;> first | rfl | exact absurd rfl hj) (fun j h8 hj => by unfold rowX; split <;> first | rfl | exact absurd rfl hj) rfl rfl (fun _ _ h _ => h) rfl
  (fun w2 hf => by
   have hct := h.contTo hf;refine ⟨hct.hq, hct.hb, hct.tq, hct.tr, hct.tb, by show (M.ms ++ [m]).map MMail.p = _; rw [List.map_append, h.ct.bq]; rfl, fun y hy => ?_, hct.sq, hct.sb⟩;rcases List.mem_append.1 hy with hy | hy
   ·exact hct.bb y hy
   ·rw [List.mem_singleton] at hy; subst hy; exact h.bytes hf hm) (.inl (by omega))
theorem GrAt.addSeen (h : GrAt w B g c G M) (hl : ∀ q : Nat × RMem, M.ps[c]? = some q → q.2.ps = []) (m : MItem) (hm : OwnBs 5 w m) {a : Option Addr} {c' : Nat} (ho : w1.ownsRow 0 40 2 (.slice a (M.ss.length + 1) c') (M.ss.length + 1) (cellsM M.ss ++ m.cells)) (hg : w.grownBy w1 (rowV G M 5).ownBlock) (ha : (Value.slice a (M.ss.length + 1) c').ownBlock = (rowV G M 5).ownBlock ∨ (Value.slice a (M.ss.length + 1) c').ownBlock = some w.heap.size) :
  GrAt (w1.setCell ⟨g, 5, none⟩ (.slice a (M.ss.length + 1) c')) B g c { G with seen := G.seen ++ [m.it] } { M with ra := upd M.ra 5 a, rc := upd M.rc 5 c', ss := M.ss ++ [m] } :=
 h.grow (i := 5) (by omega) ho hg ha (by show (M.ss ++ [m]).length = _; simp) (by show cellsM (M.ss ++ [m]) = _; rw [cellsM_append]; rfl) rfl rfl (fun j h8 hj => by unfold rowN; split <;> first | rfl | exact absurd rfl hj) (fun j h8 hj => by unfold rowX; split <;> first | rfl | exact absurd rfl hj) rfl rfl (fun _ _ h _ => h) rfl
  (fun w2 hf => by
   have hct := h.contTo hf;refine ⟨hct.hq, hct.hb, hct.tq, hct.tr, hct.tb, hct.bq, hct.bb, by show (M.ss ++ [m]).map MItem.it = _; rw [List.map_append, h.ct.sq]; rfl, fun y hy => ?_⟩;rcases List.mem_append.1 hy with hy | hy
   ·exact hct.sb y hy
   ·rw [List.mem_singleton] at hy; subst hy; exact h.item hf hm) (.inr hl)
theorem GrAt.addWhen (h : GrAt w B g c G M) (x : Int) {a : Option Addr} {c' : Nat} (ho : w1.ownsRow 0 3 1 (.slice a (G.wh.length + 1) c') (G.wh.length + 1) (G.wh.map iz ++ [iz x])) (hg : w.grownBy w1 (rowV G M 6).ownBlock) (ha : (Value.slice a (G.wh.length + 1) c').ownBlock = (rowV G M 6).ownBlock ∨ (Value.slice a (G.wh.length + 1) c').ownBlock = some w.heap.size) :
  GrAt (w1.setCell ⟨g, 6, none⟩ (.slice a (G.wh.length + 1) c')) B g c { G with wh := G.wh ++ [x] } { M with ra := upd M.ra 6 a, rc := upd M.rc 6 c' } :=
 h.grow (i := 6) (by omega) ho hg ha (by show (G.wh ++ [x]).length = _; simp) (by show (G.wh ++ [x]).map iz = _; simp) rfl rfl (fun j h8 hj => by unfold rowN; split <;> first | rfl | exact absurd rfl hj) (fun j h8 hj => by unfold rowX; split <;> first | rfl | exact absurd rfl hj) rfl rfl (fun _ _ h _ => h) rfl
  (fun w2 hf => by
   have hct := h.contTo hf;exact ⟨hct.hq, hct.hb, hct.tq, hct.tr, hct.tb, hct.bq, hct.bb, hct.sq, hct.sb⟩) (.inl (by omega))
theorem GrAt.addLed (h : GrAt w B g c G M) (x : Int × Int) {a : Option Addr} {c' : Nat} (ho : w1.ownsRow 0 80 2 (.slice a (G.led.length + 1) c') (G.led.length + 1) (G.led.flatMap ledCells ++ ledCells x)) (hg : w.grownBy w1 (rowV G M 7).ownBlock) (ha : (Value.slice a (G.led.length + 1) c').ownBlock = (rowV G M 7).ownBlock ∨ (Value.slice a (G.led.length + 1) c').ownBlock = some w.heap.size) :
  GrAt (w1.setCell ⟨g, 7, none⟩ (.slice a (G.led.length + 1) c')) B g c { G with led := G.led ++ [x] } { M with ra := upd M.ra 7 a, rc := upd M.rc 7 c' } :=
 h.grow (i := 7) (by omega) ho hg ha (by show (G.led ++ [x]).length = _; simp) (by show (G.led ++ [x]).flatMap ledCells = _; simp) rfl rfl (fun j h8 hj => by
   have e : j = 0 ∨ j = 1 ∨ j = 2 ∨ j = 3 ∨ j = 4 ∨ j = 5 ∨ j = 6 := by omega
   rcases e with rfl | rfl | rfl | rfl | rfl | rfl | rfl <;> rfl) (fun j h8 hj => by
   have e : j = 0 ∨ j = 1 ∨ j = 2 ∨ j = 3 ∨ j = 4 ∨ j = 5 ∨ j = 6 := by omega
   rcases e with rfl | rfl | rfl | rfl | rfl | rfl | rfl <;> rfl) rfl rfl (fun _ _ h _ => h) rfl
  (fun w2 hf => by
   have hct := h.contTo hf;exact ⟨hct.hq, hct.hb, hct.tq, hct.tr, hct.tb, hct.bq, hct.bb, hct.sq, hct.sb⟩) (.inl (by omega))
end
end Go.Proofs.YtogcnfhmcpkdcaaGreat
namespace Go.Proofs.YtogcnfhmcpkdcaaGreat
open Go.RowKit
set_option linter.unusedVariables false
set_option linter.unusedSimpArgs false
section
variable {w w' w1 : World} {B g c : Nat} {G G' : PGroup} {M M' : GMem} {S : GN → Prop}
theorem GrAt.setNotes (h : GrAt w B g c G M) {i : Nat} (hi : i < M.ts.length) {b cap : Nat} (hv : rowV G M 2 = .slice (some ⟨b, 0, none⟩) M.ts.length cap) (t : MNts) (hrow : w.ownsRow 0 27 1 t.cell t.ns.length (t.ns.map MNote.cell)) (hb : ∀ m ∈ t.ns, ByAt w m.a m.c m.b) (hfree : ∀ k, t.a.map (·.block) = some k → B ≤ k ∧ ∀ y, ¬ M.own g y k) :
  GrAt (w.setCell ⟨b, i, none⟩ t.cell) B g c { G with nt := G.nt.set i t.p } { M with ts := M.ts.set i t } := by
 obtain ⟨h1, -, hf, hbg⟩ := h.stored (i := 2) (by omega) hv i t.cell;have hX : ∀ j, j ≠ 2 → rowX { G with nt := G.nt.set i t.p } { M with ts := M.ts.set i t } j = rowX G M j := fun j hj => by unfold rowX; split <;> first | rfl | exact absurd rfl hj
 have hN : ∀ j, rowN { G with nt := G.nt.set i t.p } { M with ts := M.ts.set i t } j = rowN G M j := fun j => by unfold rowN; split <;> first | rfl | simp
 have hV : ∀ j, rowV { G with nt := G.nt.set i t.p } { M with ts := M.ts.set i t } j = rowV G M j := fun j => by unfold rowV; rw [hN]
 obtain ⟨hinn, hdis⟩ := h.apart (M' := { M with ts := M.ts.set i t }) (x := .nts i) (fun y k hy hk => by
  cases y with
  | g => exact hk
  | row j => exact hk
  | raft j => exact hk
  | nts j =>
   obtain ⟨t', h2, h3⟩ : ∃ t' : MNts, (M.ts.set i t)[j]? = some t' ∧ t'.a.map (·.block) = some k := hk;rw [set_get hi, if_neg (fun e => hy (by rw [e]))] at h2;exact ⟨t', h2, h3⟩) (fun k hk => by
  obtain ⟨t', h2, h3⟩ : ∃ t' : MNts, (M.ts.set i t)[i]? = some t' ∧ t'.a.map (·.block) = some k := hk;rw [set_get hi, if_pos rfl] at h2;injection h2 with h2; subst h2
  exact .inr (hfree k h3))
 have hct := h.contStay hf (fun j e => by cases e);have ht' : (w.setCell ⟨b, i, none⟩ t.cell).ownsRow 0 27 1 t.cell t.ns.length (t.ns.map MNote.cell) := own_mv9 hrow fun k hk => by
  rw [MNts.cell, ownBlock_eq] at hk;obtain ⟨cur, hc⟩ := own_kind hrow hk;exact hf.block k (Array.getElem?_eq_some_iff.1 hc).1 (fun x hx => absurd hx ((hfree k hk).2 x))
 refine ⟨?_, fun j hj => ?_, h.rl, fun j Rj q h2 h3 => h.raftStay hf h2 h3 (fun e => by cases e) (h.letters hf h2 h3 (fun x k cs fr hS hx hc => ?_)), h.eo, ⟨hct.hq, hct.hb, ?_, fun y hy => ?_, fun y hy m hm => ?_, hct.bq, hct.bb, hct.sq, hct.sb⟩, hinn, hdis, by simpa using h.bs⟩
 ·rw [show gcells { G with nt := G.nt.set i t.p } { M with ts := M.ts.set i t } = gcells G M by unfold gcells; simp only [hV]];exact (h.stay hf (x := .g) rfl (fun e => by cases e)).trans h.row
 ·rw [hV, hN];by_cases e : j = 2
  ·subst e;rw [show rowX { G with nt := G.nt.set i t.p } { M with ts := M.ts.set i t } 2 = (rowX G M 2).set i t.cell by show (M.ts.set i t).map MNts.cell = (M.ts.map MNts.cell).set i t.cell; rw [List.map_set]];exact h1
  ·rw [hX j e];exact h.rowStay hf hj (fun e9 => by injection e9 with e9; exact e e9)
 ·subst hS;obtain ⟨h6, h7⟩ : 2 < 8 ∧ (M.ra 2).map (·.block) = some k := hx;obtain ⟨cur, h8⟩ := own_kind (h.rows 2 h6) h7;exact absurd (kind_eq h8 hc) (by decide)
 ·show (M.ts.set i t).map MNts.p = G.nt.set i t.p;rw [List.map_set, h.ct.tq]
 ·rcases List.mem_or_eq_of_mem_set hy with hy | rfl
  ·exact hct.tr y hy
  ·exact ht'
 ·rcases List.mem_or_eq_of_mem_set hy with hy | rfl
  ·exact hct.tb y hy m hm
  ·exact h.bytes hf (hb m hm)
theorem GrAt.setPtr (h : GrAt w B g c G M) {i : Nat} (hi : i < M.ps.length) {b cap : Nat} (hv : rowV G M 0 = .slice (some ⟨b, 0, none⟩) M.ps.length cap) {R' : PRaft} {p' : Nat} {N' : RMem} (hr : RfAt w p' R' N') (hl : N'.ps = []) (hfree : ∀ k, N'.own p' k → B ≤ k ∧ ∀ y, ¬ M.own g y k) :
  GrAt (w.setCell ⟨b, i, none⟩ (.pointer (some ⟨p', 0, none⟩))) B g c { G with rs := G.rs.set i R' } { M with ps := M.ps.set i (p', N') } := by
 obtain ⟨h1, -, hf, hbg⟩ := h.stored (i := 0) (by omega) hv i (.pointer (some ⟨p', 0, none⟩));have hlr : i < G.rs.length := by rw [← h.rl]; exact hi
 have hX : ∀ j, j ≠ 0 → rowX { G with rs := G.rs.set i R' } { M with ps := M.ps.set i (p', N') } j = rowX G M j := fun j hj => by unfold rowX; split <;> first | rfl | exact absurd rfl hj
 have hN : ∀ j, rowN { G with rs := G.rs.set i R' } { M with ps := M.ps.set i (p', N') } j = rowN G M j := fun j => by unfold rowN; split <;> first | rfl | simp
 have hV : ∀ j, rowV { G with rs := G.rs.set i R' } { M with ps := M.ps.set i (p', N') } j = rowV G M j := fun j => by unfold rowV; rw [hN]
 have hbo : M.own g (.row 0) b := ⟨by omega, by unfold rowV at hv; injection hv with e1 _ _; rw [e1]; rfl⟩
 obtain ⟨cs0, hc0⟩ := own_kind (h.rows 0 (by omega)) hbo.2;obtain ⟨hinn, hdis⟩ := h.apart (M' := { M with ps := M.ps.set i (p', N') }) (x := .raft i) (fun y k hy hk => by
  cases y with
  | g => exact hk
  | row j => exact hk
  | nts j => exact hk
  | raft j =>
   obtain ⟨q, h2, h3⟩ : ∃ q : Nat × RMem, (M.ps.set i (p', N'))[j]? = some q ∧ q.2.own q.1 k := hk;rw [set_get hi, if_neg (fun e => hy (by rw [e]))] at h2;exact ⟨q, h2, h3⟩) (fun k hk => by
  obtain ⟨q, h2, h3⟩ : ∃ q : Nat × RMem, (M.ps.set i (p', N'))[i]? = some q ∧ q.2.own q.1 k := hk;rw [set_get hi, if_pos rfl] at h2;injection h2 with h2; subst h2
  exact .inr (hfree k h3))
 have hct := h.contStay hf (fun j e => by cases e);refine ⟨?_, fun j hj => ?_, by simp [h.rl], fun j Rj q h2 h3 => ?_, fun j q hj h2 => ?_, ⟨hct.hq, hct.hb, hct.tq, hct.tr, hct.tb, hct.bq, hct.bb, hct.sq, hct.sb⟩, hinn, hdis, by simpa using h.bs⟩
 ·rw [show gcells { G with rs := G.rs.set i R' } { M with ps := M.ps.set i (p', N') } = gcells G M by unfold gcells; simp only [hV]];exact (h.stay hf (x := .g) rfl (fun e => by cases e)).trans h.row
 ·rw [hV, hN];by_cases e : j = 0
  ·subst e;rw [show rowX { G with rs := G.rs.set i R' } { M with ps := M.ps.set i (p', N') } 0 = (rowX G M 0).set i (.pointer (some ⟨p', 0, none⟩)) by show (M.ps.set i (p', N')).map ptrOf = (M.ps.map ptrOf).set i (.pointer (some ⟨p', 0, none⟩)); rw [List.map_set]; rfl];exact h1
  ·rw [hX j e];exact h.rowStay hf hj (fun e9 => by injection e9 with e9; exact e e9)
 ·have h2 : (G.rs.set i R')[j]? = some Rj := h2;have h3 : (M.ps.set i (p', N'))[j]? = some q := h3;rw [set_get hlr] at h2;rw [set_get hi] at h3;by_cases e : j = i
  ·rw [if_pos e] at h2 h3;injection h2 with h2; injection h3 with h3
   subst h2 h3;refine hr.far (g := b) (fun ho => (hfree b ho).2 _ hbo) hc0 (by decide) (by show ∀ m ∈ N'.ps, _; rw [hl]; simp) (fun k hk => Below.heap_setCell _ _ _ k hk) (by simp)
  ·rw [if_neg e] at h2 h3;refine h.raftStay hf h2 h3 (fun e9 => by cases e9) (h.letters hf h2 h3 (fun x k cs fr hS hx hc => ?_));subst hS;obtain ⟨h6, h7⟩ : 0 < 8 ∧ (M.ra 0).map (·.block) = some k := hx;obtain ⟨cur, h8⟩ := own_kind (h.rows 0 h6) h7;exact absurd (kind_eq h8 hc) (by decide)
 ·have h2 : (M.ps.set i (p', N'))[j]? = some q := h2;rw [set_get hi] at h2;by_cases e : j = i
  ·rw [if_pos e] at h2; injection h2 with h2; subst h2; exact hl
  ·rw [if_neg e] at h2; exact h.eo j q hj h2
def PGroup.none : PGroup := ⟨[], [], [], [], [], [], [], [], true⟩
def GMem.none : GMem := ⟨fun _ => Option.none, fun _ => 0, [], [], [], [], []⟩
theorem grNone (w : World) (c : Nat) : GrAt (w.alloc (.cells (gcells PGroup.none GMem.none) 67)) w.heap.size w.heap.size c PGroup.none GMem.none := by
 have hno : ∀ x k, GMem.none.own w.heap.size x k → x = .g ∧ k = w.heap.size := fun x k hx => by
  cases x with
  | g => exact ⟨rfl, hx⟩
  | row j => obtain ⟨_, h2⟩ : j < 8 ∧ (Option.none : Option Addr).map (·.block) = some k := hx; cases h2
  | raft j => obtain ⟨q, h1, _⟩ : ∃ q : Nat × RMem, ([] : List (Nat × RMem))[j]? = some q ∧ q.2.own q.1 k := hx; simp at h1
  | nts j => obtain ⟨t, h1, _⟩ : ∃ t : MNts, ([] : List MNts)[j]? = some t ∧ t.a.map (·.block) = some k := hx; simp at h1
 have hnil : ∀ i, i < 8 → rowN PGroup.none GMem.none i = 0 ∧ rowX PGroup.none GMem.none i = [] ∧ rowV PGroup.none GMem.none i = .slice Option.none 0 0 := fun i hi => by
  have e : i = 0 ∨ i = 1 ∨ i = 2 ∨ i = 3 ∨ i = 4 ∨ i = 5 ∨ i = 6 ∨ i = 7 := by omega
  rcases e with rfl | rfl | rfl | rfl | rfl | rfl | rfl | rfl <;> exact ⟨rfl, rfl, rfl⟩
 refine ⟨heap_alloc_new w _, fun i hi => ?_, rfl, fun i R q h1 _ => by simp [PGroup.none] at h1, fun i q _ h1 => by simp [GMem.none] at h1, ⟨rfl, by simp [GMem.none], rfl, by simp [GMem.none], by simp [GMem.none], rfl, by simp [GMem.none], rfl, by simp [GMem.none]⟩, fun x k hx => by rw [(hno x k hx).2]; exact Nat.le_refl _, fun x y k hx hy => by rw [(hno x k hx).1, (hno y k hy).1], by simp⟩;obtain ⟨h1, h2, h3⟩ := hnil i hi;rw [h1, h2, h3];exact ⟨by simp, .inl ⟨rfl, rfl⟩⟩
end
end Go.Proofs.YtogcnfhmcpkdcaaGreat
namespace Go.Proofs.YtogcnfhmcpkdcaaGreat
open Go.RowKit
set_option linter.unusedVariables false
set_option linter.unusedSimpArgs false
theorem RfAt.grown2 {w w' : World} {p : Nat} {R : PRaft} {M : RMem} (h : RfAt w p R M) {o : Option Nat} (hg : w.grownBy w' o) (hn : ∀ k, o = some k → ¬ M.own p k) (hi : ∀ m ∈ M.ps, ∀ k, o = some k → m.ia.map (·.block) ≠ some k) (hU : ∀ k cs fr, o = some k → w.heap[k]? = some (.cells cs 5 fr) → False) : RfAt w' p R M := by
 have hs := hg.size;have hlt : ∀ {k : Nat} {x : Obj}, w.heap[k]? = some x → k < w.heap.size := fun h9 => (Array.getElem?_eq_some_iff.1 h9).1
 have hb : ∀ k, k < w.heap.size → o ≠ some k → w'.heap[k]? = w.heap[k]? := fun k hk ho => hg.block k hk (fun e => ho e.symm)
 have hu : ∀ k cs fr, k < w.heap.size → w.heap[k]? = some (.cells cs 5 fr) → w'.heap[k]? = w.heap[k]? := fun k cs fr hk hc => hb k hk (fun e => hU k cs fr e hc)
 have hown : ∀ k, k < w.heap.size → M.own p k → w'.heap[k]? = w.heap[k]? := fun k hk hm => hb k hk (fun e => hn k e hm)
 have blk : ∀ {e base size n : Nat} {a : Option Addr} {c : Nat} {xs : List Value} {g : Nat}, w.ownsRow base e size (.slice a n c) n xs → (Value.slice a n c).ownBlock = some g → g < w.heap.size ∧ a.map (·.block) = some g := fun hr hg9 => by
  rw [ownBlock_eq] at hg9;obtain ⟨cur, hc⟩ := own_kind hr hg9;exact ⟨hlt hc, hg9⟩
 refine ⟨h.sv, (hown _ h.lt (.inl rfl)).trans h.row, ⟨(hown _ (hlt h.ln.row) (.inr (.inl rfl))).trans h.ln.row, own_mv9 h.ln.own fun g hg9 => ?_, h.ln.its, fun m hm => OwnBs.grown (T := 5) (h.ln.bs m hm) hu hs, Nat.zero_le _⟩, OwnBs.grown (T := 5) h.st hu hs, own_mv9 h.nw fun g hg9 => ?_, fun m hm => OwnBs.grown (T := 5) (h.nb m hm) hu hs, h.nq, own_mv9 h.ou fun g hg9 => ?_, h.oq, ⟨h.po.q, h.po.c, fun m hm => (h.po.m m hm).kept (fun k hk => hb k ((h.po.m m hm).block hk) (fun e => hi m hm k e hk)) hu hs, h.po.n⟩⟩
 ·obtain ⟨h1, h2⟩ := blk h.ln.own hg9; exact hown g h1 (.inr (.inr (.inl h2)))
 ·obtain ⟨h1, h2⟩ := blk h.nw hg9; exact hown g h1 (.inr (.inr (.inr (.inl h2))))
 ·obtain ⟨h1, h2⟩ := blk h.ou hg9; exact hown g h1 (.inr (.inr (.inr (.inr h2))))
section
variable {w w' w1 : World} {B g c : Nat} {G G' : PGroup} {M M' : GMem} {S : GN → Prop}
theorem GrAt.apart2 (h : GrAt w B g c G M) {T : GN → Prop} (h1 : ∀ y k, ¬ T y → M'.own g y k → M.own g y k) (h2 : ∀ x k, T x → M'.own g x k → M.own g x k ∨ (B ≤ k ∧ ∀ y, ¬ M.own g y k)) (h3 : ∀ x y k, T x → T y → M'.own g x k → M'.own g y k → x = y) : (∀ y k, M'.own g y k → B ≤ k) ∧ ∀ y z k, M'.own g y k → M'.own g z k → y = z := by
 have key : ∀ y k, M'.own g y k → M.own g y k ∨ (T y ∧ B ≤ k ∧ ∀ z, ¬ M.own g z k) := fun y k hk => by
  by_cases e : T y
  ·rcases h2 y k e hk with a | a
   ·exact .inl a
   ·exact .inr ⟨e, a⟩
  ·exact .inl (h1 y k e hk)
 refine ⟨fun y k hk => ?_, fun y z k hy hz => ?_⟩
 ·rcases key y k hk with a | ⟨-, a, -⟩
  ·exact h.inn y k a
  ·exact a
 ·rcases key y k hy with a | ⟨ey, -, a⟩ <;> rcases key z k hz with b | ⟨ez, -, b⟩
  ·exact h.dis y z k a b
  ·exact absurd a (b y)
  ·exact absurd b (a z)
  ·exact h3 y z k ey ez hy hz
theorem snoc_get {α : Type} {l : List α} {x : α} (j : Nat) : (l ++ [x])[j]? = if j = l.length then some x else l[j]? := by
 by_cases e : j = l.length
 ·subst e; simp
 ·rw [if_neg e];by_cases h : j < l.length
  ·rw [List.getElem?_append_left h]
  ·rw [List.getElem?_eq_none (by simp; omega), List.getElem?_eq_none (by omega)]
theorem GrAt.addRaft (h : GrAt w B g c G M) {R' : PRaft} {p' : Nat} {N' : RMem} (hr : RfAt w p' R' N') (hl : N'.ps = []) (hfree : ∀ k, N'.own p' k → B ≤ k ∧ ∀ y, ¬ M.own g y k) {a : Option Addr} {c' : Nat} (ho : w1.ownsRow 0 25 1 (.slice a (M.ps.length + 1) c') (M.ps.length + 1) (M.ps.map ptrOf ++ [.pointer (some ⟨p', 0, none⟩)])) (hg : w.grownBy w1 (rowV G M 0).ownBlock) (ha : (Value.slice a (M.ps.length + 1) c').ownBlock = (rowV G M 0).ownBlock ∨ (Value.slice a (M.ps.length + 1) c').ownBlock = some w.heap.size) :
  GrAt (w1.setCell ⟨g, 0, none⟩ (.slice a (M.ps.length + 1) c')) B g c { G with rs := G.rs ++ [R'] } { M with ra := upd M.ra 0 a, rc := upd M.rc 0 c', ps := M.ps ++ [(p', N')] } := by
 obtain ⟨M2, hM2⟩ : ∃ M2 : GMem, M2 = { M with ra := upd M.ra 0 a, rc := upd M.rc 0 c', ps := M.ps ++ [(p', N')] } := ⟨_, rfl⟩
 obtain ⟨G2, hG2⟩ : ∃ G2 : PGroup, G2 = { G with rs := G.rs ++ [R'] } := ⟨_, rfl⟩
 rw [← hM2, ← hG2];have eps : M2.ps = M.ps ++ [(p', N')] := by rw [hM2]
 have era : M2.ra = upd M.ra 0 a := by rw [hM2]
 have erc : M2.rc = upd M.rc 0 c' := by rw [hM2]
 have ers : G2.rs = G.rs ++ [R'] := by rw [hG2]
 have hN : ∀ j, j < 8 → j ≠ 0 → rowN G2 M2 j = rowN G M j := fun j _ hj => by rw [hM2, hG2]; unfold rowN; split <;> first | rfl | exact absurd rfl hj
 have hX : ∀ j, j < 8 → j ≠ 0 → rowX G2 M2 j = rowX G M j := fun j _ hj => by rw [hM2, hG2]; unfold rowX; split <;> first | rfl | exact absurd rfl hj
 have hV' : rowV G2 M2 0 = .slice a (M.ps.length + 1) c' := by unfold rowV; rw [era, erc, upd_same, upd_same]; show Value.slice a M2.ps.length c' = _; rw [eps]; simp
 have hV : ∀ j, j < 8 → j ≠ 0 → rowV G2 M2 j = rowV G M j := fun j h8 hj => by unfold rowV; rw [era, erc, hN j h8 hj, upd_other _ _ hj, upd_other _ _ hj]
 have hgl := h.lt (x := .g) rfl;have hgr : ∀ k, (M.ra 0).map (·.block) = some k → k ≠ g := fun k hk e => by
  subst e;have := h.dis .g (.row 0) k rfl ⟨by omega, hk⟩;cases this
 have hob : (rowV G M 0).ownBlock = (M.ra 0).map (·.block) := by unfold rowV; rw [ownBlock_eq]
 have hnb : (Value.slice a (M.ps.length + 1) c').ownBlock = a.map (·.block) := ownBlock_eq _ _ _;rw [hob] at hg ha;rw [hnb] at ha;have hoth : ∀ k, k ≠ g → (w1.setCell ⟨g, 0, none⟩ (.slice a (M.ps.length + 1) c')).heap[k]? = w1.heap[k]? := fun k hk => Below.heap_setCell _ _ _ k hk
 have hf : GFr g M (fun x => x = .g ∨ x = .row 0) w (w1.setCell ⟨g, 0, none⟩ (.slice a (M.ps.length + 1) c')) := ⟨hg.os, hg.tape, hg.output, by simpa using hg.size, fun k hk hx => by
  have h1 : k ≠ g := fun e => hx .g e (.inl rfl)
  exact (hoth k h1).trans (hg.block k hk (fun e => hx (.row 0) ⟨by omega, e.symm⟩ (.inr rfl)))⟩
 have hrow1 : w1.heap[g]? = some (.cells (gcells G M) 67 (0, 0)) := (hg.block g hgl (fun e => hgr g e.symm rfl)).trans h.row;have hnew : ∀ k, a.map (·.block) = some k → (M.ra 0).map (·.block) = some k ∨ w.heap.size ≤ k := fun k hk => by
  rcases ha with h9 | h9
  ·exact .inl (h9.symm.trans hk)
  ·rw [h9] at hk; injection hk with hk; exact .inr (by omega)
 have hpl : ∀ k, N'.own p' k → k < w.heap.size := fun k hk => by
  rcases Nat.lt_or_ge k w.heap.size with h9 | h9
  ·exact h9
  ·exact absurd hk (hr.notNew h9)
 obtain ⟨hinn, hdis⟩ := h.apart2 (M' := M2) (T := fun y => y = .row 0 ∨ y = .raft M.ps.length) (fun y k hy hk => by
  cases y with
  | g => exact hk
  | row j =>
   obtain ⟨h1, h2⟩ : j < 8 ∧ (M2.ra j).map (·.block) = some k := hk;rw [era, upd_other _ _ (fun e => hy (.inl (by rw [e])))] at h2;exact ⟨h1, h2⟩
  | nts j =>
   obtain ⟨t, h1, h2⟩ : ∃ t : MNts, M2.ts[j]? = some t ∧ t.a.map (·.block) = some k := hk;rw [hM2] at h1;exact ⟨t, h1, h2⟩
  | raft j =>
   obtain ⟨q, h1, h2⟩ : ∃ q : Nat × RMem, M2.ps[j]? = some q ∧ q.2.own q.1 k := hk;rw [eps, snoc_get, if_neg (fun e => hy (.inr (by rw [e])))] at h1;exact ⟨q, h1, h2⟩) (fun x k hx hk => by
  rcases hx with rfl | rfl
  ·obtain ⟨h1, h2⟩ : 0 < 8 ∧ (M2.ra 0).map (·.block) = some k := hk;rw [era, upd_same] at h2;rcases hnew k h2 with h9 | h9
   ·exact .inl ⟨h1, h9⟩
   ·exact .inr (h.free h9)
  ·obtain ⟨q, h1, h2⟩ : ∃ q : Nat × RMem, M2.ps[M.ps.length]? = some q ∧ q.2.own q.1 k := hk;rw [eps, snoc_get, if_pos rfl] at h1;injection h1 with h1; subst h1
   exact .inr (hfree k h2)) (fun x y k hx hy hk hk' => by
  have cross : ∀ k, M2.own g (.row 0) k → M2.own g (.raft M.ps.length) k → False := fun k hk hk' => by
   obtain ⟨h1, h2⟩ : 0 < 8 ∧ (M2.ra 0).map (·.block) = some k := hk;rw [era, upd_same] at h2;obtain ⟨q, h3, h4⟩ : ∃ q : Nat × RMem, M2.ps[M.ps.length]? = some q ∧ q.2.own q.1 k := hk';rw [eps, snoc_get, if_pos rfl] at h3;injection h3 with h3; subst h3
   rcases hnew k h2 with h9 | h9
   ·exact (hfree k h4).2 (.row 0) ⟨h1, h9⟩
   ·have := hpl k h4; omega
  rcases hx with rfl | rfl <;> rcases hy with rfl | rfl
  ·rfl
  ·exact (cross k hk hk').elim
  ·exact (cross k hk' hk).elim
  ·rfl)
 have hct := h.contTo hf;refine ⟨?_, fun j hj => ?_, by rw [eps, ers]; simp [h.rl], fun j Rj q h1 h2 => ?_, fun j q hj h2 => ?_, by rw [hM2, hG2]; exact ⟨hct.hq, hct.hb, hct.tq, hct.tr, hct.tb, hct.bq, hct.bb, hct.sq, hct.sb⟩, hinn, hdis, Nat.le_trans h.bs hf.size⟩
 ·rw [heap_setCell_same w1 g 0 _ _ (.slice a (M.ps.length + 1) c') hrow1, ← hV', gcells_set (by omega) hV (by rw [hG2])]
 ·by_cases e : j = 0
  ·subst e;rw [hV', show rowN G2 M2 0 = M.ps.length + 1 by show M2.ps.length = _; rw [eps]; simp, show rowX G2 M2 0 = M.ps.map ptrOf ++ [.pointer (some ⟨p', 0, none⟩)] by show M2.ps.map ptrOf = _; rw [eps, List.map_append]; rfl];refine own_mv9 ho fun k hk => hoth k (fun e => ?_)
   rw [hnb] at hk;rcases hnew k hk with h9 | h9
   ·exact hgr k h9 e
   ·omega
  ·rw [hV j hj e, hN j hj e, hX j hj e];exact h.rowStay hf hj (fun e9 => by rcases e9 with e9 | e9 <;> cases e9; exact e rfl)
 ·rw [ers, snoc_get] at h1;rw [eps, snoc_get] at h2;by_cases e : j = M.ps.length
  ·rw [if_pos (by rw [← h.rl]; exact e)] at h1;rw [if_pos e] at h2;injection h1 with h1; injection h2 with h2
   subst h1 h2;have hr1 : RfAt w1 p' R' N' := hr.grown2 hg (fun k hk ho9 => (hfree k ho9).2 (.row 0) ⟨by omega, hk⟩) (by rw [hl]; simp) (fun k cs fr hk hc => by
    obtain ⟨cur, h9⟩ := own_kind (h.rows 0 (by omega)) hk;exact absurd (kind_eq h9 hc) (by decide))
   exact hr1.far (g := g) (fun ho9 => (hfree g ho9).2 .g rfl) hrow1 (by decide) (by show ∀ m ∈ N'.ps, _; rw [hl]; simp) hoth (by simp)
  ·rw [if_neg (by rw [← h.rl]; exact e)] at h1;rw [if_neg e] at h2;refine h.raftStay hf h1 h2 (fun e9 => by rcases e9 with e9 | e9 <;> cases e9) (h.letters hf h1 h2 (fun x k cs fr hS hx hc => ?_));rcases hS with e9 | e9
   ·subst e9;have hx : k = g := hx;subst hx;exact absurd (kind_eq h.row hc) (by decide)
   ·subst e9;obtain ⟨h6, h7⟩ : 0 < 8 ∧ (M.ra 0).map (·.block) = some k := hx;obtain ⟨cur, h8⟩ := own_kind (h.rows 0 h6) h7;exact absurd (kind_eq h8 hc) (by decide)
 ·rw [eps, snoc_get] at h2;by_cases e : j = M.ps.length
  ·rw [if_pos e] at h2; injection h2 with h2; subst h2; exact hl
  ·rw [if_neg e] at h2; exact h.eo j q hj h2
theorem GrAt.addHead (h : GrAt w B g c G M) (m : MNote) (hm : ByAt w m.a m.c m.b) {a : Option Addr} {c' : Nat} (ho : w1.ownsRow 0 27 1 (.slice a (M.hs.length + 1) c') (M.hs.length + 1) (M.hs.map MNote.cell ++ [m.cell])) (hg : w.grownBy w1 (rowV G M 1).ownBlock) (ha : (Value.slice a (M.hs.length + 1) c').ownBlock = (rowV G M 1).ownBlock ∨ (Value.slice a (M.hs.length + 1) c').ownBlock = some w.heap.size) :
  GrAt (w1.setCell ⟨g, 1, none⟩ (.slice a (M.hs.length + 1) c')) B g c { G with hd := G.hd ++ [m.b] } { M with ra := upd M.ra 1 a, rc := upd M.rc 1 c', hs := M.hs ++ [m] } :=
 h.grow (i := 1) (by omega) ho hg ha (by show (M.hs ++ [m]).length = _; simp) (by show (M.hs ++ [m]).map MNote.cell = _; simp) rfl rfl (fun j h8 hj => by unfold rowN; split <;> first | rfl | exact absurd rfl hj) (fun j h8 hj => by unfold rowX; split <;> first | rfl | exact absurd rfl hj) rfl rfl (fun _ _ h _ => h) rfl
  (fun w2 hf => by
   have hct := h.contTo hf;refine ⟨by show (M.hs ++ [m]).map MNote.b = _; rw [List.map_append, h.ct.hq]; rfl, fun y hy => ?_, hct.tq, hct.tr, hct.tb, hct.bq, hct.bb, hct.sq, hct.sb⟩;rcases List.mem_append.1 hy with hy | hy
   ·exact hct.hb y hy
   ·rw [List.mem_singleton] at hy; subst hy; exact h.bytes hf hm) (.inl (by omega))
theorem GrAt.addNotes (h : GrAt w B g c G M) {a : Option Addr} {c' : Nat} (ho : w1.ownsRow 0 29 1 (.slice a (M.ts.length + 1) c') (M.ts.length + 1) (M.ts.map MNts.cell ++ [.slice none 0 0])) (hg : w.grownBy w1 (rowV G M 2).ownBlock) (ha : (Value.slice a (M.ts.length + 1) c').ownBlock = (rowV G M 2).ownBlock ∨ (Value.slice a (M.ts.length + 1) c').ownBlock = some w.heap.size) :
  GrAt (w1.setCell ⟨g, 2, none⟩ (.slice a (M.ts.length + 1) c')) B g c { G with nt := G.nt ++ [[]] } { M with ra := upd M.ra 2 a, rc := upd M.rc 2 c', ts := M.ts ++ [⟨none, 0, []⟩] } :=
 h.grow (i := 2) (by omega) ho hg ha (by show (M.ts ++ [_]).length = _; simp) (by show (M.ts ++ [_]).map MNts.cell = _; simp [MNts.cell]) rfl rfl (fun j h8 hj => by unfold rowN; split <;> first | rfl | exact absurd rfl hj) (fun j h8 hj => by unfold rowX; split <;> first | rfl | exact absurd rfl hj) rfl rfl (fun j t h1 h2 => by
   have h1 : (M.ts ++ [⟨none, 0, []⟩])[j]? = some t := h1;rw [snoc_get] at h1;by_cases e : j = M.ts.length
   ·rw [if_pos e] at h1; injection h1 with h1; subst h1; exact absurd rfl h2
   ·rw [if_neg e] at h1; exact h1) rfl
  (fun w2 hf => by
   have hct := h.contTo hf;refine ⟨hct.hq, hct.hb, by show (M.ts ++ [_]).map MNts.p = _; rw [List.map_append, h.ct.tq]; rfl, fun y hy => ?_, fun y hy m hm => ?_, hct.bq, hct.bb, hct.sq, hct.sb⟩
   ·rcases List.mem_append.1 hy with hy | hy
    ·exact hct.tr y hy
    ·rw [List.mem_singleton] at hy; subst hy; exact ⟨rfl, .inl ⟨rfl, rfl⟩⟩
   ·rcases List.mem_append.1 hy with hy | hy
    ·exact hct.tb y hy m hm
    ·rw [List.mem_singleton] at hy; subst hy; cases hm) (.inl (by omega))
theorem GrAt.addAt (h : GrAt w B g c G M) (x : Int) {a : Option Addr} {c' : Nat} (ho : w1.ownsRow 0 3 1 (.slice a (G.ats.length + 1) c') (G.ats.length + 1) (G.ats.map iz ++ [iz x])) (hg : w.grownBy w1 (rowV G M 3).ownBlock) (ha : (Value.slice a (G.ats.length + 1) c').ownBlock = (rowV G M 3).ownBlock ∨ (Value.slice a (G.ats.length + 1) c').ownBlock = some w.heap.size) :
  GrAt (w1.setCell ⟨g, 3, none⟩ (.slice a (G.ats.length + 1) c')) B g c { G with ats := G.ats ++ [x] } { M with ra := upd M.ra 3 a, rc := upd M.rc 3 c' } :=
 h.grow (i := 3) (by omega) ho hg ha (by show (G.ats ++ [x]).length = _; simp) (by show (G.ats ++ [x]).map iz = _; simp) rfl rfl (fun j h8 hj => by unfold rowN; split <;> first | rfl | exact absurd rfl hj) (fun j h8 hj => by unfold rowX; split <;> first | rfl | exact absurd rfl hj) rfl rfl (fun _ _ h _ => h) rfl
  (fun w2 hf => by
   have hct := h.contTo hf;exact ⟨hct.hq, hct.hb, hct.tq, hct.tr, hct.tb, hct.bq, hct.bb, hct.sq, hct.sb⟩) (.inl (by omega))
end
end Go.Proofs.YtogcnfhmcpkdcaaGreat
