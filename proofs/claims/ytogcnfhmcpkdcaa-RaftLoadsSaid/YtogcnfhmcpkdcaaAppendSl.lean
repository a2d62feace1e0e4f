/-
  The builtin append onto a row of the call's own, the source any slice that reads as cells (nil, empty or not). No program in sight.
-/
import Derived.Test.YtogcnfhmcpkdcaaNumM
import Derived.Maps.AppendAt
import Derived.Laws.OwnMore
import Derived.RegionTactic
namespace Go.Proofs.Ytogcnfhmcpkdcaa
open Go.RowKit
set_option linter.unusedVariables false

/-- bytes as a slice of cells -/
theorem BsAt.sl {w : World} {B : Nat} {a : Option Addr} {n c : Nat} {l : List UInt8} (h : BsAt w B a n c l) : SlAt w B 1 a n c (l.map bv) := by
  have hl := h.hlen
  refine ⟨by simpa using hl, h.hle, h.hmax, h.hnil, fun hp => ?_⟩
  have hn : 0 < n := by simpa [hl] using hp
  obtain ⟨b, o, e, hb, hc⟩ := h.hat hn
  refine ⟨b, o, e, hb, fun i hi => ?_⟩
  have hi' : i < l.length := by simpa using hi
  rw [hc i (by omega)]
  simp [bv, List.getD, List.getElem?_eq_getElem hi']

/-- the cells of a slice, at its address -/
theorem SlAt.cells {w : World} {B size : Nat} {a : Addr} {n c : Nat} {xs : List Value} (h : SlAt w B size (some a) n c xs) : ∀ j u, xs[j]? = some u → w.cell? (a.add j) = some u := by
  intro j u hj
  have hjl : j < xs.length := (List.getElem?_eq_some_iff.1 hj).1
  obtain ⟨b, o, e, _, hc⟩ := h.hat (by omega)
  simp at e; subst e
  rw [Addr.add_lit, hc j hjl, hj]

section
variable {P : Program} (w : World)

theorem run_append_sl (base : Nat) (t ty e : TypeId) (i : TypeInfo) (z : Value) (size bytes : Nat) (ht : P.underlying t = some (.slice e)) (hi : P.info? e = some i) (hz : i.zero = some z)
    (hsize : i.size = size) (hby : i.bytes = bytes) (hzs : z.cells.size = size) (hsz : 0 < size)
    (v : Value) (n : Nat) (xs : List Value) (hown : w.ownsRow base e size v n xs)
    (B : Nat) (a : Option Addr) (m c : Nat) (news : List Value) (hs : SlAt w B size a m c news) (h1 : ∀ u ∈ news, u.oneCell' = true)
    (h63 : n + m ≤ maxLen) (hbytes : (n + m) * bytes ≤ 140737488355328) (hbase : base ≤ w.heap.size) :
    ∃ v' w', (Builtin.append_ #[t, t] ty #[v, .slice a m c]).run P w = .ok v' w' ∧ w'.ownsRow base e size v' (n + m) (xs ++ news) ∧ w.grownBy w' v.ownBlock ∧ (v'.ownBlock = v.ownBlock ∨ v'.ownBlock = some w.heap.size) := by
  cases a with
  | none =>
    have hc := hs.hnil rfl
    subst hc
    have hm : m = 0 := by have := hs.hle; omega
    subst hm
    have hn : news = [] := List.eq_nil_of_length_eq_zero (by have := hs.hlen; omega)
    subst hn
    exact ⟨v, w, run_append_owned_none (P := P) (w := w) base t ty e i size ht hi v n xs hown, by simpa using hown, World.grownBy.refl w _, .inl rfl⟩
  | some ad =>
    obtain ⟨v', w', hr, h2, h3, _, h5⟩ := run_append_own_at (P := P) w base t ty e i z size bytes ht hi hz hsize hby hzs hsz v n xs hown ad m c news hs.hlen hs.cells h1 h63 hbytes hbase
    exact ⟨v', w', hr, h2, h3, h5⟩

theorem wp_append_sl {o : Oper} {act : Act} {K : Act → World → Prop} {Q : Exit → Act → World → Prop} (s x : Operand) (t : TypeId)
    (ho : o.op = .call { callee := .builtin .append, args := #[s, x], argTypes := #[t, t] })
    (base : Nat) (e : TypeId) (i : TypeInfo) (z : Value) (size bytes : Nat) (ht : P.underlying t = some (.slice e)) (hi : P.info? e = some i) (hz : i.zero = some z)
    (hsize : i.size = size) (hby : i.bytes = bytes) (hzs : z.cells.size = size) (hsz : 0 < size)
    (v : Value) (n : Nat) (xs : List Value) (hv : act.eval s = v) (hown : w.ownsRow base e size v n xs)
    (B : Nat) (a : Option Addr) (m c : Nat) (news : List Value) (hx : act.eval x = .slice a m c) (hs : SlAt w B size a m c news) (h1 : ∀ u ∈ news, u.oneCell' = true)
    (h63 : n + m ≤ maxLen) (hbytes : (n + m) * bytes ≤ 140737488355328) (hbase : base ≤ w.heap.size)
    (h : ∀ a' c' w', w'.ownsRow base e size (.slice a' (n + m) c') (n + m) (xs ++ news) → w.grownBy w' v.ownBlock → ((Value.slice a' (n + m) c').ownBlock = v.ownBlock ∨ (Value.slice a' (n + m) c').ownBlock = some w.heap.size) → K (act.put o.dst (.slice a' (n + m) c')) w') : o.wp P act w K Q := by
  obtain ⟨v', w', hr, h2, h3, h4⟩ := run_append_sl (P := P) w base t o.type e i z size bytes ht hi hz hsize hby hzs hsz v n xs hown B a m c news hs h1 h63 hbytes hbase
  unfold Oper.wp execOp
  simp only [ho, resolve, invoke, builtin, Sem.run_bind, Sem.run_pure, Result.andThen_ok, List.map_toArray, List.map_cons, List.map_nil, hv, hx, hr]
  obtain ⟨a', c', rfl, _⟩ := SlAt.ofOwns h2
  exact h a' c' w' h2 h3 h4

theorem wpList_append_sl {ops : Array Oper} {rest : List Oper} {o : Oper} {act : Act} {Q : Exit → Act → World → Prop} (hgd : o.guard = none) (s x : Operand) (t : TypeId)
    (ho : o.op = .call { callee := .builtin .append, args := #[s, x], argTypes := #[t, t] })
    (base : Nat) (e : TypeId) (i : TypeInfo) (z : Value) (size bytes : Nat) (ht : P.underlying t = some (.slice e)) (hi : P.info? e = some i) (hz : i.zero = some z)
    (hsize : i.size = size) (hby : i.bytes = bytes) (hzs : z.cells.size = size) (hsz : 0 < size)
    (v : Value) (n : Nat) (xs : List Value) (hv : act.eval s = v) (hown : w.ownsRow base e size v n xs)
    (B : Nat) (a : Option Addr) (m c : Nat) (news : List Value) (hx : act.eval x = .slice a m c) (hs : SlAt w B size a m c news) (h1 : ∀ u ∈ news, u.oneCell' = true)
    (h63 : n + m ≤ maxLen) (hbytes : (n + m) * bytes ≤ 140737488355328) (hbase : base ≤ w.heap.size)
    (h : ∀ a' c' w', w'.ownsRow base e size (.slice a' (n + m) c') (n + m) (xs ++ news) → w.grownBy w' v.ownBlock → ((Value.slice a' (n + m) c').ownBlock = v.ownBlock ∨ (Value.slice a' (n + m) c').ownBlock = some w.heap.size) → wpList P ops Q rest (act.put o.dst (.slice a' (n + m) c')) w') : wpList P ops Q (o :: rest) act w :=
  wpList_plain hgd fun _ hK => wp_append_sl w s x t ho base e i z size bytes ht hi hz hsize hby hzs hsz v n xs hv hown B a m c news hx hs h1 h63 hbytes hbase fun a' c' w' h2 h3 h4 => hK _ _ (h a' c' w' h2 h3 h4)

theorem step_append_sl {ops : Array Oper} {o : Oper} {act : Act} {K : Act → World → Prop} {Q : Exit → Act → World → Prop} {E : Prop} (hgd : o.guard = none) (s x : Operand) (t : TypeId)
    (ho : o.op = .call { callee := .builtin .append, args := #[s, x], argTypes := #[t, t] })
    (base : Nat) (e : TypeId) (i : TypeInfo) (z : Value) (size bytes : Nat) (ht : P.underlying t = some (.slice e)) (hi : P.info? e = some i) (hz : i.zero = some z)
    (hsize : i.size = size) (hby : i.bytes = bytes) (hzs : z.cells.size = size) (hsz : 0 < size)
    (v : Value) (n : Nat) (xs : List Value) (hv : act.eval s = v) (hown : w.ownsRow base e size v n xs)
    (B : Nat) (a : Option Addr) (m c : Nat) (news : List Value) (hx : act.eval x = .slice a m c) (hs : SlAt w B size a m c news) (h1 : ∀ u ∈ news, u.oneCell' = true)
    (h63 : n + m ≤ maxLen) (hbytes : (n + m) * bytes ≤ 140737488355328) (hbase : base ≤ w.heap.size)
    (h : ∀ a' c' w', w'.ownsRow base e size (.slice a' (n + m) c') (n + m) (xs ++ news) → w.grownBy w' v.ownBlock → ((Value.slice a' (n + m) c').ownBlock = v.ownBlock ∨ (Value.slice a' (n + m) c').ownBlock = some w.heap.size) → K (act.put o.dst (.slice a' (n + m) c')) w') :
    if Region.wanted o (yielded ops act.tmps) = true then Oper.wp P o act w K Q else E := by
  have hw : Region.wanted o (yielded ops act.tmps) = true := by simp [Region.wanted, hgd]
  rw [if_pos hw]
  exact wp_append_sl w s x t ho base e i z size bytes ht hi hz hsize hby hzs hsz v n xs hv hown B a m c news hx hs h1 h63 hbytes hbase h
end

/-- a slice that was just built, of one cell -/
theorem slAt_one (w : World) (x : Value) (t : TypeId) : SlAt (w.alloc (.cells #[x] t)) (w.heap.size + 1) 1 (some ⟨w.heap.size, 0, none⟩) 1 1 [x] :=
  ⟨rfl, Nat.le_refl _, by unfold maxLen; omega, fun e => by simp at e, fun _ => ⟨w.heap.size, 0, rfl, by omega, fun i hi => by
    rw [cell_of_row _ w.heap.size (0 + i) #[x] t (0, 0) (heap_alloc_new w _)]; simp⟩⟩

/-- a slice that was just built, of any cells -/
theorem slAt_new (w : World) (cs : List Value) (t : TypeId) (hl : cs.length ≤ maxLen) : SlAt (w.alloc (.cells cs.toArray t)) (w.heap.size + 1) 1 (some ⟨w.heap.size, 0, none⟩) cs.length cs.length cs :=
  ⟨by simp, Nat.le_refl _, hl, fun e => by simp at e, fun _ => ⟨w.heap.size, 0, rfl, by omega, fun i hi => by
    rw [cell_of_row _ w.heap.size (0 + i) cs.toArray t (0, 0) (heap_alloc_new w _)]; simp⟩⟩

/-- a row that was just built, of one cell -/
theorem ownsRow_one (w : World) (B : Nat) (hB : B ≤ w.heap.size) (x : Value) (t : TypeId) : (w.alloc (.cells #[x] t)).ownsRow B t 1 (.slice (some ⟨w.heap.size, 0, none⟩) 1 1) 1 [x] :=
  ⟨rfl, .inr ⟨w.heap.size, 1, #[x], rfl, hB, heap_alloc_new w _, Nat.le_refl _, by unfold maxLen; omega, rfl, rfl⟩⟩

theorem one_oneCell {x : Value} (h : x.oneCell' = true) : ∀ u ∈ [x], u.oneCell' = true := by
  intro u hu
  simp at hu
  subst hu
  exact h

theorem bvs_oneCell (l : List UInt8) : ∀ u ∈ l.map bv, u.oneCell' = true := by
  intro u hu
  obtain ⟨x, _, rfl⟩ := List.mem_map.1 hu
  rfl
end Go.Proofs.Ytogcnfhmcpkdcaa
