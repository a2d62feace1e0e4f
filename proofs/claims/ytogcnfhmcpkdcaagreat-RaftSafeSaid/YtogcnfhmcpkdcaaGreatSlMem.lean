/-
  The builtin append onto a row of the call's own, the source any slice that reads as cells (nil, empty or not). No program in sight.
  Items in memory: a slice of items as cells, their bytes in blocks of bytes. No program in sight.
-/
import Derived.Test.YtogcnfhmcpkdcaaGreatNumM
import Derived.Test.YtogcnfhmcpkdcaaGreatLineLaw
import Derived.Test.YtogcnfhmcpkdcaaGreatEyeM
import Derived.Maps.AppendAt
import Derived.Laws.OwnMore
import Derived.RegionTactic
import Derived.Laws.AppendOwn
namespace Go.Proofs.YtogcnfhmcpkdcaaGreat
open Go.RowKit
set_option linter.unusedVariables false
theorem BsAt.sl {w : World} {B : Nat} {a : Option Addr} {n c : Nat} {l : List UInt8} (h : BsAt w B a n c l) : SlAt w B 1 a n c (l.map bv) := by
 have hl := h.hlen;refine ⟨by simpa using hl, h.hle, h.hmax, h.hnil, fun hp => ?_⟩;have hn : 0 < n := by simpa [hl] using hp
 obtain ⟨b, o, e, hb, hc⟩ := h.hat hn;refine ⟨b, o, e, hb, fun i hi => ?_⟩;have hi' : i < l.length := by simpa using hi
 rw [hc i (by omega)];simp [bv, List.getD, List.getElem?_eq_getElem hi']
theorem SlAt.cells {w : World} {B size : Nat} {a : Addr} {n c : Nat} {xs : List Value} (h : SlAt w B size (some a) n c xs) : ∀ j u, xs[j]? = some u → w.cell? (a.add j) = some u := by
 intro j u hj;have hjl : j < xs.length := (List.getElem?_eq_some_iff.1 hj).1;obtain ⟨b, o, e, _, hc⟩ := h.hat (by omega);simp at e; subst e;rw [Addr.add_lit, hc j hjl, hj]
section
variable {P : Program} (w : World)
theorem run_append_sl (base : Nat) (t ty e : TypeId) (i : TypeInfo) (z : Value) (size bytes : Nat) (ht : P.underlying t = some (.slice e)) (hi : P.info? e = some i) (hz : i.zero = some z)
  (hsize : i.size = size) (hby : i.bytes = bytes) (hzs : z.cells.size = size) (hsz : 0 < size)
  (v : Value) (n : Nat) (xs : List Value) (hown : w.ownsRow base e size v n xs)
  (B : Nat) (a : Option Addr) (m c : Nat) (news : List Value) (hs : SlAt w B size a m c news) (h1 : ∀ u ∈ news, u.oneCell' = true)
  (h63 : n + m ≤ maxLen) (hbytes : (n + m) * bytes ≤ 140737488355328) (hbase : base ≤ w.heap.size) :
  ∃ v' w', (Builtin.append_ #[t, t] ty #[v, .slice a m c]).run P w = .ok v' w' ∧ w'.ownsRow base e size v' (n + m) (xs ++ news) ∧ w.grownBy w' v.ownBlock ∧ (v'.ownBlock = v.ownBlock ∨ v'.ownBlock = some w.heap.size) := by
 cases a with
 | none =>
  have hc := hs.hnil rfl;subst hc;have hm : m = 0 := by have := hs.hle; omega
  subst hm;have hn : news = [] := List.eq_nil_of_length_eq_zero (by have := hs.hlen; omega);subst hn;exact ⟨v, w, run_append_owned_none (P := P) (w := w) base t ty e i size ht hi v n xs hown, by simpa using hown, World.grownBy.refl w _, .inl rfl⟩
 | some ad =>
  obtain ⟨v', w', hr, h2, h3, _, h5⟩ := run_append_own_at (P := P) w base t ty e i z size bytes ht hi hz hsize hby hzs hsz v n xs hown ad m c news hs.hlen hs.cells h1 h63 hbytes hbase;exact ⟨v', w', hr, h2, h3, h5⟩
theorem wp_append_sl {o : Oper} {act : Act} {K : Act → World → Prop} {Q : Exit → Act → World → Prop} (s x : Operand) (t : TypeId)
  (ho : o.op = .call { callee := .builtin .append, args := #[s, x], argTypes := #[t, t] })
  (base : Nat) (e : TypeId) (i : TypeInfo) (z : Value) (size bytes : Nat) (ht : P.underlying t = some (.slice e)) (hi : P.info? e = some i) (hz : i.zero = some z)
  (hsize : i.size = size) (hby : i.bytes = bytes) (hzs : z.cells.size = size) (hsz : 0 < size)
  (v : Value) (n : Nat) (xs : List Value) (hv : act.eval s = v) (hown : w.ownsRow base e size v n xs)
  (B : Nat) (a : Option Addr) (m c : Nat) (news : List Value) (hx : act.eval x = .slice a m c) (hs : SlAt w B size a m c news) (h1 : ∀ u ∈ news, u.oneCell' = true)
  (h63 : n + m ≤ maxLen) (hbytes : (n + m) * bytes ≤ 140737488355328) (hbase : base ≤ w.heap.size)
  (h : ∀ a' c' w', w'.ownsRow base e size (.slice a' (n + m) c') (n + m) (xs ++ news) → w.grownBy w' v.ownBlock → ((Value.slice a' (n + m) c').ownBlock = v.ownBlock ∨ (Value.slice a' (n + m) c').ownBlock = some w.heap.size) → K (act.put o.dst (.slice a' (n + m) c')) w') : o.wp P act w K Q := by
 obtain ⟨v', w', hr, h2, h3, h4⟩ := run_append_sl (P := P) w base t o.type e i z size bytes ht hi hz hsize hby hzs hsz v n xs hown B a m c news hs h1 h63 hbytes hbase;unfold Oper.wp execOp;simp only [ho, resolve, invoke, builtin, Sem.run_bind, Sem.run_pure, Result.andThen_ok, List.map_toArray, List.map_cons, List.map_nil, hv, hx, hr];obtain ⟨a', c', rfl, _⟩ := SlAt.ofOwns h2;exact h a' c' w' h2 h3 h4
theorem wpList_append_sl {ops : Array Oper} {rest : List Oper} {o : Oper} {act : Act} {Q : Exit → Act → World → Prop} (hgd : o.guard = none) (s x : Operand) (t : TypeId)
  (ho : o.op = .call { callee := .builtin .append, args := #[s, x], argTypes := #[t, t] })
  (base : Nat) (e : TypeId) (i : TypeInfo) (z : Value) (size bytes : Nat) (ht : P.underlying t = some (.slice e)) (hi : P.info? e = some i) (hz : i.zero = some z)
  (hsize : i.size = size) (hby : i.bytes = bytes) (hzs : z.cells.size = size) (hsz : 0 < size)
  (v : Value) (n : Nat) (xs : List Value) (hv : act.eval s = v) (hown : w.ownsRow base e size v n xs)
  (B : Nat) (a : Option Addr) (m c : Nat) (news : List Value) (hx : act.eval x = .slice a m c) (hs : SlAt w B size a m c news) (h1 : ∀ u ∈ news, u.oneCell' = true)
  (h63 : n + m ≤ maxLen) (hbytes : (n + m) * bytes ≤ 140737488355328) (hbase : base ≤ w.heap.size)
  (h : ∀ a' c' w', w'.ownsRow base e size (.slice a' (n + m) c') (n + m) (xs ++ news) → w.grownBy w' v.ownBlock → ((Value.slice a' (n + m) c').ownBlock = v.ownBlock ∨ (Value.slice a' (n + m) c').ownBlock = some w.heap.size) → wpList P ops Q rest (act.put o.dst (.slice a' (n + m) c')) w') : wpList P ops Q (o :: rest) act w :=
 wpList_plain hgd fun _ hK => wp_append_sl w s x t ho base e i z size bytes ht hi hz hsize hby hzs hsz v n xs hv hown B a m c news hx hs h1 h63 hbytes hbase fun a' c' w' h2 h3 h4 => hK _ _ (h a' c' w' h2 h3 h4)
end
theorem slAt_one (w : World) (x : Value) (t : TypeId) : SlAt (w.alloc (.cells #[x] t)) (w.heap.size + 1) 1 (some ⟨w.heap.size, 0, none⟩) 1 1 [x] :=
 ⟨rfl, Nat.le_refl _, by unfold maxLen; omega, fun e => by simp at e, fun _ => ⟨w.heap.size, 0, rfl, by omega, fun i hi => by
  rw [cell_of_row _ w.heap.size (0 + i) #[x] t (0, 0) (heap_alloc_new w _)]; simp⟩⟩
theorem slAt_new (w : World) (cs : List Value) (t : TypeId) (hl : cs.length ≤ maxLen) : SlAt (w.alloc (.cells cs.toArray t)) (w.heap.size + 1) 1 (some ⟨w.heap.size, 0, none⟩) cs.length cs.length cs :=
 ⟨by simp, Nat.le_refl _, hl, fun e => by simp at e, fun _ => ⟨w.heap.size, 0, rfl, by omega, fun i hi => by
  rw [cell_of_row _ w.heap.size (0 + i) cs.toArray t (0, 0) (heap_alloc_new w _)]; simp⟩⟩
theorem one_oneCell {x : Value} (h : x.oneCell' = true) : ∀ u ∈ [x], u.oneCell' = true := by
 intro u hu;simp at hu;subst hu;exact h
theorem bvs_oneCell (l : List UInt8) : ∀ u ∈ l.map bv, u.oneCell' = true := by
 intro u hu;obtain ⟨x, _, rfl⟩ := List.mem_map.1 hu;rfl
end Go.Proofs.YtogcnfhmcpkdcaaGreat
namespace Go.Proofs.YtogcnfhmcpkdcaaGreat
open Go.RowKit
set_option linter.unusedVariables false
structure MItem where
 t : Int
 a : Option Addr
 n : Nat
 c : Nat
 b : List UInt8
abbrev MItem.it (m : MItem) : PItem := (m.t, m.b)
def MItem.cells (m : MItem) : List Value := [.int .i64 m.t, .slice m.a m.n m.c]
def cellsM : List MItem → List Value
 | [] => []
 | m :: r => .int .i64 m.t :: .slice m.a m.n m.c :: cellsM r
theorem cellsM_append (l r : List MItem) : cellsM (l ++ r) = cellsM l ++ cellsM r := by
 induction l with
 | nil => rfl
 | cons m l ih => simp [cellsM, ih]
theorem cellsM_len (l : List MItem) : (cellsM l).length = l.length * 2 := by
 induction l with
 | nil => rfl
 | cons m l ih => simp [cellsM, ih]; omega
theorem cellsM_at : ∀ (l : List MItem) (i : Nat) (m : MItem), l[i]? = some m → (cellsM l)[i * 2]? = some (.int .i64 m.t) ∧ (cellsM l)[i * 2 + 1]? = some (.slice m.a m.n m.c)
 | [], i, m, h => by simp at h
 | x :: l, 0, m, h => by simp at h; subst h; exact ⟨rfl, rfl⟩
 | x :: l, i + 1, m, h => by
  have := cellsM_at l i m (by simpa using h);rw [show (i + 1) * 2 = i * 2 + 1 + 1 by omega];simpa [cellsM] using this
theorem cellsM_take : ∀ (l : List MItem) (k : Nat), (cellsM l).take (k * 2) = cellsM (l.take k)
 | [], k => by simp [cellsM]
 | x :: l, 0 => by simp [cellsM]
 | x :: l, k + 1 => by
  rw [show (k + 1) * 2 = k * 2 + 1 + 1 by omega];simp [cellsM, cellsM_take l k]
theorem cellsM_drop : ∀ (l : List MItem) (k : Nat), (cellsM l).drop (k * 2) = cellsM (l.drop k)
 | [], k => by simp [cellsM]
 | x :: l, 0 => by simp [cellsM]
 | x :: l, k + 1 => by
  rw [show (k + 1) * 2 = k * 2 + 1 + 1 by omega];simp [cellsM, cellsM_drop l k]
theorem cellsM_one (l : List MItem) : ∀ u ∈ cellsM l, u.oneCell' = true := by
 induction l with
 | nil => intro u hu; simp [cellsM] at hu
 | cons m l ih =>
  intro u hu;simp only [cellsM, List.mem_cons] at hu;rcases hu with rfl | rfl | hu
  ·rfl
  ·rfl
  ·exact ih u hu
abbrev MItem.Bs (w : World) (B : Nat) (m : MItem) : Prop := BsAt w B m.a m.n m.c m.b
structure ItemsAt (w : World) (B : Nat) (a : Option Addr) (n c : Nat) (ms : List MItem) : Prop where
 sl : SlAt w B 2 a n c (cellsM ms)
 bs : ∀ m ∈ ms, m.Bs w B
theorem ItemsAt.len {w : World} {B : Nat} {a : Option Addr} {n c : Nat} {ms : List MItem} (h : ItemsAt w B a n c ms) : ms.length = n := by
 have := h.sl.hlen;rw [cellsM_len] at this;omega
theorem ItemsAt.mono {w : World} {B B' : Nat} {a : Option Addr} {n c : Nat} {ms : List MItem} (h : ItemsAt w B a n c ms) (hB : B ≤ B') : ItemsAt w B' a n c ms :=
 ⟨h.sl.mono hB, fun m hm => (h.bs m hm).mono hB⟩
theorem ItemsAt.below {w w' : World} {B B' : Nat} {a : Option Addr} {n c : Nat} {ms : List MItem} (h : ItemsAt w B a n c ms) (hb : Below B' w w') (hB : B ≤ B') : ItemsAt w' B a n c ms :=
 ⟨h.sl.below hb hB, fun m hm => (h.bs m hm).below hb hB⟩
theorem ItemsAt.cell {w : World} {B : Nat} {a : Option Addr} {n c : Nat} {ms : List MItem} (h : ItemsAt w B a n c ms) {i : Nat} {m : MItem} (hi : ms[i]? = some m) :
  ∃ b o, a = some ⟨b, o, none⟩ ∧ b < B ∧ w.cell? ⟨b, o + i * 2, none⟩ = some (.int .i64 m.t) ∧ w.cell? ⟨b, o + (i * 2 + 1), none⟩ = some (.slice m.a m.n m.c) := by
 have hl : i < ms.length := (List.getElem?_eq_some_iff.1 hi).1;have hlen := cellsM_len ms;obtain ⟨b, o, e, hb, hc⟩ := h.sl.hat (by omega);obtain ⟨c1, c2⟩ := cellsM_at ms i m hi;exact ⟨b, o, e, hb, by rw [hc _ (by omega)]; exact c1, by rw [hc _ (by omega)]; exact c2⟩
def OwnBs (U8 : TypeId) (w : World) (m : MItem) : Prop := m.Bs w w.heap.size ∧ (0 < m.n → ∃ ad cs fr, m.a = some ad ∧ w.heap[ad.block]? = some (.cells cs U8 fr))
theorem OwnBs.below {U8 : TypeId} {w w' : World} {m : MItem} (h : OwnBs U8 w m) (hb : Below w.heap.size w w') : OwnBs U8 w' m :=
 ⟨(h.1.below hb (Nat.le_refl _)).mono hb.size, fun hn => let ⟨ad, cs, fr, e, hh⟩ := h.2 hn; ⟨ad, cs, fr, e, (hb.block _ (Array.getElem?_eq_some_iff.1 hh).1).trans hh⟩⟩
theorem OwnBs.grown {U8 T : TypeId} {w w' : World} {m : MItem} (h : OwnBs U8 w m) (hg : ∀ k cs fr, k < w.heap.size → w.heap[k]? = some (.cells cs U8 fr) → w'.heap[k]? = w.heap[k]?) (hs : w.heap.size ≤ w'.heap.size) : OwnBs U8 w' m := by
 obtain ⟨hb, h2⟩ := h;refine ⟨⟨hb.hlen, hb.hle, hb.hmax, hb.hnil, hb.hbig, fun hp => ?_⟩, fun hn => ?_⟩
 ·obtain ⟨b, o, e, hl, hc⟩ := hb.hat hp;obtain ⟨ad, cs, fr, e2, hh⟩ := h2 hp;have : ad = ⟨b, o, none⟩ := by rw [e] at e2; injection e2 with e2; exact e2.symm
  subst this;exact ⟨b, o, e, by omega, fun i hi => (World.cell?_of_block (a := ⟨b, o + i, none⟩) (hg b cs fr hl hh)).trans (hc i hi)⟩
 ·obtain ⟨ad, cs, fr, e2, hh⟩ := h2 hn;exact ⟨ad, cs, fr, e2, (hg _ cs fr (Array.getElem?_eq_some_iff.1 hh).1 hh).trans hh⟩
theorem OwnBs.of_own {U8 : TypeId} {w : World} {B : Nat} {t : Int} {a : Option Addr} {n c : Nat} {b : List UInt8} (h : w.ownsRow B U8 1 (.slice a n c) n (b.map bv)) (hn : n ≤ 140737488355328) : OwnBs U8 w ⟨t, a, n, c, b⟩ := by
 refine ⟨?_, fun hp => ?_⟩
 ·obtain ⟨a5, c5, e5, h5⟩ := bsAt_of_owns h hn;injection e5 with e6 e7 e8
  subst e6; subst e8;exact h5
 ·rcases h.2 with ⟨e, h0⟩ | ⟨g, cap, cur, e, h1, h2, h3⟩
  ·have h0' : (⟨t, a, n, c, b⟩ : MItem).n = n := rfl;rw [h0'] at hp;omega
  ·injection e with e1 _ _
   exact ⟨⟨g, 0, none⟩, cur, (0, 0), e1, h2⟩
structure LineAt (U8 TI TL : TypeId) (w : World) (base p : Nat) (x : PLine) (la : Option Addr) (lc : Nat) (ms : List MItem) : Prop where
 row : w.heap[p]? = some (.cells #[.int .i64 x.base, .int .i64 x.term, .slice la ms.length lc] TL (0, 0))
 own : w.ownsRow base TI 2 (.slice la ms.length lc) ms.length (cellsM ms)
 its : ms.map MItem.it = x.l
 bs : ∀ m ∈ ms, OwnBs U8 w m
 pb : base ≤ p
theorem LineAt.len {U8 TI TL : TypeId} {w : World} {base p : Nat} {x : PLine} {la : Option Addr} {lc : Nat} {ms : List MItem} (h : LineAt U8 TI TL w base p x la lc ms) : ms.length = x.l.length := by
 rw [← h.its]; simp
theorem LineAt.lt {U8 TI TL : TypeId} {w : World} {base p : Nat} {x : PLine} {la : Option Addr} {lc : Nat} {ms : List MItem} (h : LineAt U8 TI TL w base p x la lc ms) : p < w.heap.size := (Array.getElem?_eq_some_iff.1 h.row).1
theorem LineAt.sl {U8 TI TL : TypeId} {w : World} {base p : Nat} {x : PLine} {la : Option Addr} {lc : Nat} {ms : List MItem} (h : LineAt U8 TI TL w base p x la lc ms) : ItemsAt w w.heap.size la ms.length lc ms := by
 obtain ⟨a, c, e, hs⟩ := SlAt.ofOwns h.own;injection e with e1 _ e2
 subst e1 e2;exact ⟨hs, fun m hm => (h.bs m hm).1⟩
theorem own_below' {w w' : World} {base e size n : Nat} {v : Value} {xs : List Value} (h : w.ownsRow base e size v n xs) (hb : Below w.heap.size w w') : w'.ownsRow base e size v n xs := by
 refine ⟨h.1, ?_⟩;rcases h.2 with ⟨e, hn⟩ | ⟨g, cap, cur, e, h1, h2, h3, h4, h5, h6⟩
 ·exact .inl ⟨e, hn⟩
 ·exact .inr ⟨g, cap, cur, e, h1, (hb.block g (Array.getElem?_eq_some_iff.1 h2).1).trans h2, h3, h4, h5, h6⟩
theorem LineAt.below {U8 TI TL : TypeId} {w w' : World} {base p : Nat} {x : PLine} {la : Option Addr} {lc : Nat} {ms : List MItem} (h : LineAt U8 TI TL w base p x la lc ms) (hb : Below w.heap.size w w') : LineAt U8 TI TL w' base p x la lc ms :=
 ⟨(hb.block p h.lt).trans h.row, own_below' h.own hb, h.its, fun m hm => (h.bs m hm).below hb, h.pb⟩
theorem LineAt.cells {U8 TI TL : TypeId} {w : World} {base p : Nat} {x : PLine} {la : Option Addr} {lc : Nat} {ms : List MItem} (h : LineAt U8 TI TL w base p x la lc ms) :
  w.cell? ⟨p, 0, none⟩ = some (.int .i64 x.base) ∧ w.cell? ⟨p, 1, none⟩ = some (.int .i64 x.term) ∧ w.cell? ⟨p, 2, none⟩ = some (.slice la ms.length lc) ∧ (∀ o, w.frozen? ⟨p, o, none⟩ = false) := by
 refine ⟨?_, ?_, ?_, fun o => frozen_of_row _ _ _ _ _ h.row⟩ <;> rw [cell_of_row _ _ _ _ _ _ h.row] <;> rfl
theorem LineAt.far {U8 TI TL : TypeId} (hT : TI ≠ TL) {w : World} {base p : Nat} {x : PLine} {la : Option Addr} {lc : Nat} {ms : List MItem} (h : LineAt U8 TI TL w base p x la lc ms) : (Value.slice la ms.length lc).ownBlock ≠ some p := by
 intro e;rcases h.own.2 with ⟨e1, _⟩ | ⟨g, cap, cur, e1, h1, h2, _⟩
 ·rw [e1] at e; simp [Value.ownBlock] at e
 ·rw [e1] at e;simp [Value.ownBlock] at e;subst e;rw [h.row] at h2;injection h2 with h2
  injection h2 with _ h3 _
  exact hT h3.symm
structure Turned (p : Nat) (o : Option Nat) (w w' : World) : Prop where
 os : w'.os = w.os
 tape : w'.tape = w.tape
 output : w'.output = w.output
 size : w.heap.size ≤ w'.heap.size
 block : ∀ k, k < w.heap.size → k ≠ p → some k ≠ o → w'.heap[k]? = w.heap[k]?
theorem Turned.ofBelow {p : Nat} {o : Option Nat} {w w' : World} (h : Below w.heap.size w w') : Turned p o w w' := ⟨h.os, h.tape, h.output, h.size, fun k hk _ _ => h.block k hk⟩
theorem Turned.thenBelow {p : Nat} {o : Option Nat} {w w1 w2 : World} (h : Turned p o w w1) (k : Below w1.heap.size w1 w2) : Turned p o w w2 :=
 ⟨k.os.trans h.os, k.tape.trans h.tape, k.output.trans h.output, Nat.le_trans h.size k.size, fun i hi h1 h2 => (k.block i (Nat.lt_of_lt_of_le hi h.size)).trans (h.block i hi h1 h2)⟩
theorem Turned.ofBelowThen {p : Nat} {o : Option Nat} {w w1 w2 : World} (h : Below w.heap.size w w1) (k : Turned p o w1 w2) : Turned p o w w2 :=
 ⟨k.os.trans h.os, k.tape.trans h.tape, k.output.trans h.output, Nat.le_trans h.size k.size, fun i hi h1 h2 => (k.block i (Nat.lt_of_lt_of_le hi h.size) h1 h2).trans (h.block i hi)⟩
theorem Turned.trans {p : Nat} {o o' : Option Nat} {w w1 w2 : World} (h : Turned p o w w1) (k : Turned p o' w1 w2) (ho : o' = o ∨ ∀ g, o' = some g → w.heap.size ≤ g) : Turned p o w w2 :=
 ⟨k.os.trans h.os, k.tape.trans h.tape, k.output.trans h.output, Nat.le_trans h.size k.size, fun i hi h1 h2 => (k.block i (Nat.lt_of_lt_of_le hi h.size) h1 (by
  rcases ho with rfl | ho
  ·exact h2
  ·intro e; have := ho i e.symm; omega)).trans (h.block i hi h1 h2)⟩
end Go.Proofs.YtogcnfhmcpkdcaaGreat
