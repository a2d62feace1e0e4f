/-
  Contract of layer 17's 'great': is there more than is looked at?
  Contract of the reference's Great: is there more of a letter than is looked at?
  The acts of RaftLasts, opened; and whether there is more than is looked at.
-/
import Derived.Test.YtogcnfhmcpkdcaaGreatLine1
import Derived.Test.YtogcnfhmcpkdcaaGreatOpenM
import Derived.Test.YtogcnfhmcpkdcaaGreatLetLaw
namespace Go.Proofs.YtogcnfhmcpkdcaaGreat
open Go.RowKit
set_option linter.unusedVariables false
set_option linter.unusedSimpArgs false

def longItems (ms : List MItem) : Bool := (ms.take 10).any fun m => decide (60 < m.b.length)
def longAct (x : MAct) : Bool := longItems x.ms || decide (10 < x.ms.length)
def greatA (l : List MAct) : Bool := (l.take 40).any longAct || decide (40 < l.length)

theorem greatA_no {l : List MAct} (h : greatA l = false) : l.length ≤ 40 ∧ ∀ x ∈ l, x.ms.length ≤ 10 ∧ ∀ m ∈ x.ms, m.b.length ≤ 60 := by
  simp only [greatA, Bool.or_eq_false_iff, decide_eq_false_iff_not, List.any_eq_false] at h
  obtain ⟨h1, h2⟩ := h
  refine ⟨by omega, fun x hx => ?_⟩
  rw [List.take_of_length_le (by omega)] at h1
  have h3 := h1 x hx
  simp only [longAct, longItems, Bool.or_eq_true, not_or, Bool.not_eq_true, decide_eq_false_iff_not, List.any_eq_false] at h3
  obtain ⟨h4, h5⟩ := h3
  refine ⟨by omega, fun m hm => ?_⟩
  rw [List.take_of_length_le (by omega)] at h4
  have := h4 m hm
  simp at this
  exact this

theorem mem_take_at {α : Type} {l : List α} {i n : Nat} {x : α} (hx : l[i]? = some x) (hi : i < n) : x ∈ l.take n :=
  List.mem_of_getElem? (i := i) (by rw [List.getElem?_take, if_pos hi]; exact hx)
theorem any_take_succ {α : Type} {l : List α} {p : α → Bool} {k : Nat} {x : α} (hx : l[k]? = some x) : (l.take (k + 1)).any p = ((l.take k).any p || p x) := by
  have hl : k < l.length := (List.getElem?_eq_some_iff.1 hx).1
  have e : l[k] = x := by simpa [List.getElem?_eq_getElem hl] using hx
  rw [List.take_succ_eq_append_getElem hl, e, List.any_append]
  simp

end Go.Proofs.YtogcnfhmcpkdcaaGreat

namespace Go.Proofs.YtogcnfhmcpkdcaaGreat
open Go.RowKit
set_option linter.unusedVariables false
set_option linter.unusedSimpArgs false

def greatL (ms : List MItem) (n : Nat) : Bool := ((ms.take 20).any fun m => decide (200 < m.b.length)) || (decide (20 < ms.length) || decide (300 < n))
theorem greatL_no {ms : List MItem} {n : Nat} (h : greatL ms n = false) : ms.length ≤ 20 ∧ n ≤ 300 ∧ ∀ m ∈ ms, m.b.length ≤ 200 := by
  simp only [greatL, Bool.or_eq_false_iff, decide_eq_false_iff_not, List.any_eq_false] at h
  obtain ⟨h1, h2, h3⟩ := h
  refine ⟨by omega, by omega, fun m hm => ?_⟩
  rw [List.take_of_length_le (by omega)] at h1
  have := h1 m hm
  simp at this
  exact this

set_option maxRecDepth 100000 in
set_option maxHeartbeats 1000000 in
theorem r15Great (x : PLet) (ia : Option Addr) (ic : Nat) (ms : List MItem) (ba : Option Addr) (bc : Nat) (w : World) (h : SlAt w w.heap.size 2 ia ms.length ic (cellsM ms)) (hr : ∀ m ∈ ms, ItRd w w.heap.size m) :
    Calls Tryz.prog 31 #[.agg (lcell x ia ms.length ic ba bc)] w fun e w' => e = .returned (.bool (greatL ms x.b.length)) ∧ Below w.heap.size w w' := by
  obtain ⟨W1, hW1⟩ : ∃ W1, W1 = w.alloc (.cells (lcell x ia ms.length ic ba bc) 32) := ⟨_, rfl⟩
  have HW1 := Lib.hid hW1
  have hb1 : Below w.heap.size w W1 := by rw [hW1]; exact (Below.refl _ _).alloc (Nat.le_refl _) _
  have HR0 := Lib.hid (show W1.heap[w.heap.size]? = some (.cells (lcell x ia ms.length ic ba bc) 32 (0, 0)) by rw [hW1]; exact heap_alloc_new w _)
  have HB1 := Lib.hid hb1
  have H := Lib.hid (h.below hb1 (Nat.le_refl _))
  have HX := Lib.hid hr
  have hmax := h.hmax
  have hle := h.hle
  unfold maxLen at hmax
  obtain ⟨G, hG⟩ : ∃ G, greatL ms x.b.length = G := ⟨_, rfl⟩
  rw [hG]
  have HG := Lib.hid hG
  clear hW1 hb1 h hr hG
  go_enter Tryz.func31, Tryz.ntmps31
  go_wp2_with fail
  rw [← HW1.out]
  go_loopw [3] (fun iv wr => ∃ i : Nat, iv = .int .i64 i ∧ i ≤ ms.length ∧ i ≤ 20 ∧ ((ms.take i).any fun m => decide (200 < m.b.length)) = false ∧ wr = W1) (fun iv _ => 20 - (intOf iv).toNat)
  case atStart => exact ⟨0, rfl, by omega, by omega, rfl, rfl⟩
  case round =>
    obtain ⟨i, rfl, hi, hi2, hany, rfl⟩ := hrel
    have HA := Lib.hid hany
    obtain ⟨c0, c1, c2, c3, c4, c5, c6, c7⟩ := letCells HR0.out
    clear hany c0 c1 c2 c3 c4 c5
    by_cases hil : i < ms.length
    · have t1 : decide (i < ms.length) = true := by simpa using hil
      by_cases hi20 : i < 20
      · have t2 : decide ((i : Int) < 20) = true := by simp; omega
        obtain ⟨m, hm⟩ : ∃ m, ms[i]? = some m := ⟨_, List.getElem?_eq_getElem hil⟩
        have HM := Lib.hid hm
        obtain ⟨b, o, rfl, hb, hc⟩ := H.out.hat (by have := cellsM_len ms; omega)
        have hcl := cellsM_len ms
        obtain ⟨-, e1⟩ := cellsM_at ms i m hm
        rw [(HX.out m (List.mem_of_getElem? hm)).ln] at e1
        have k1 : wr.cell? ⟨b, o + i * 2 + 1, none⟩ = some (.slice m.a m.b.length m.c) := by rw [Nat.add_assoc, hc _ (by omega)]; exact e1
        have hi0 : (0 : Int) ≤ (i : Int) := by omega
        have hi1 : (i : Int) < (ms.length : Int) := by omega
        clear hc hcl e1 hm
        by_cases hlong : 200 < m.b.length
        · have t3 : decide ((200 : Int) < (m.b.length : Int)) = true := by simp; omega
          have hg : G = true := by
            rw [← HG.out, greatL]
            have h8 : ((ms.take 20).any fun m => decide (200 < m.b.length)) = true := List.any_eq_true.2 ⟨m, mem_take_at HM.out (by omega), by simpa using hlong⟩
            rw [h8]; rfl
          subst hg
          clear hlong
          go_wp2
          (try rw [Exit.noGoto_ret])
          go_ret
          exact ⟨rfl, HB1.out⟩
        · have t3 : decide ((200 : Int) < (m.b.length : Int)) = false := by simp; omega
          have HN := Lib.hid (show ((ms.take (i + 1)).any fun m => decide (200 < m.b.length)) = false from by rw [any_take_succ HM.out, HA.out]; simpa using hlong)
          clear hlong
          go_wp2
          go_roundw
          case rel => exact ⟨i + 1, by go_num, by omega, by omega, HN.out, by first | rfl | trivial⟩
          case measure => simp [intOf]; omega
      · have t2 : decide ((i : Int) < 20) = false := by simp; omega
        have hie : i = 20 := by omega
        have hg : G = true := by rw [← HG.out, greatL]; simp; omega
        have t4 : decide ((20 : Int) < (ms.length : Int)) = true := by simp; omega
        subst hg
        go_wp2
        (try rw [Exit.noGoto_ret])
        go_ret
        exact ⟨rfl, HB1.out⟩
    · have t1 : decide (i < ms.length) = false := by simpa using hil
      have hie : i = ms.length := by omega
      have hal : ((ms.take 20).any fun m => decide (200 < m.b.length)) = false := by
        have h9 := HA.out
        rw [hie, List.take_of_length_le (Nat.le_refl _)] at h9
        rw [List.take_of_length_le (by omega)]
        exact h9
      have t4 : decide ((20 : Int) < (ms.length : Int)) = false := by simp; omega
      by_cases hbl : 300 < x.b.length
      · have t5 : decide ((300 : Int) < (x.b.length : Int)) = true := by simp; omega
        have hg : G = true := by rw [← HG.out, greatL]; simp; omega
        subst hg
        clear hie hal hbl
        go_wp2
        (try rw [Exit.noGoto_ret])
        go_ret
        exact ⟨rfl, HB1.out⟩
      · have t5 : decide ((300 : Int) < (x.b.length : Int)) = false := by simp; omega
        have hg : G = false := by
          rw [← HG.out, greatL, hal]
          simp; omega
        subst hg
        clear hie hal hbl
        go_wp2
        (try rw [Exit.noGoto_ret])
        go_ret
        exact ⟨rfl, HB1.out⟩
end Go.Proofs.YtogcnfhmcpkdcaaGreat

namespace Go.Proofs.YtogcnfhmcpkdcaaGreat
open Go.ChangeShapes Go.WideShapes Go.ChangeAt Go.RowKit
set_option maxRecDepth 100000
set_option linter.unusedVariables false
set_option linter.unusedSimpArgs false

theorem cells34 : Tryz.prog.cellsOf 34 = 11 := by kernel_rfl

/-- an act in memory -/
structure MAct8 where
  d : Int
  n : Int
  x : PLet
  ia : Option Addr
  ic : Nat
  ms : List MItem
  ba : Option Addr
  bc : Nat
  a : Option Addr
  c : Nat
  b : List UInt8
def MAct8.cells (m : MAct8) : List Value := [.int .i64 m.d, .int .i64 m.n, .int .i64 m.x.k, .int .i64 m.x.t, .int .i64 m.x.a, .int .i64 m.x.u, .int .i64 m.x.o, .bool m.x.y, .slice m.ia m.ms.length m.ic, .slice m.ba m.x.b.length m.bc, .slice m.a m.b.length m.c]
def cells8 (l : List MAct8) : List Value := l.flatMap MAct8.cells
structure MAct8.Is (w : World) (B : Nat) (m : MAct8) : Prop where
  l : LetRdAt w B m.x m.ia m.ic m.ms m.ba m.bc
  b : m.b.length ≤ 140737488355328 → BsAt w B m.a m.b.length m.c m.b
theorem MAct8.Is.below {w w' : World} {B B' : Nat} {m : MAct8} (h : m.Is w B) (hb : Below B' w w') (hB : B ≤ B') : m.Is w' B := ⟨h.l.below hb hB, fun hn => (h.b hn).below hb hB⟩

theorem cells8_len (l : List MAct8) : (cells8 l).length = l.length * 11 := by
  induction l with
  | nil => rfl
  | cons x l ih => simp only [cells8, List.flatMap_cons, List.length_append, List.length_cons] at ih ⊢; rw [ih]; simp [MAct8.cells]; omega
theorem cells8_at : ∀ (l : List MAct8) (i : Nat) (m : MAct8), l[i]? = some m → ∀ j, j < 11 → (cells8 l)[i * 11 + j]? = m.cells[j]?
  | [], i, m, h, j, hj => by simp at h
  | y :: l, 0, m, h, j, hj => by
    simp at h; subst h
    show (MAct8.cells y ++ cells8 l)[0 * 11 + j]? = _
    rw [List.getElem?_append_left (by simp [MAct8.cells]; omega)]
    congr 1; omega
  | y :: l, i + 1, m, h, j, hj => by
    have h9 := cells8_at l i m (by simpa using h) j hj
    show (MAct8.cells y ++ cells8 l)[(i + 1) * 11 + j]? = _
    rw [List.getElem?_append_right (by simp [MAct8.cells]; omega), ← h9]
    congr 1
    simp [MAct8.cells]; omega

section
variable {H : Type} {enc : TypeId × Value → H} {w : World} {cs : List Value}
theorem list11 {α : Type} {l : List α} (h : l.length = 11) : ∃ a b c d e f g i j k m, l = [a, b, c, d, e, f, g, i, j, k, m] := by
  match l, h with
  | [a, b, c, d, e, f, g, i, j, k, m], _ => exact ⟨a, b, c, d, e, f, g, i, j, k, m, rfl⟩
theorem Rd.act8 (h : Rd enc Tryz.prog w 34 cs) : ∃ m : MAct8, cs = m.cells ∧ m.Is w w.heap.size := by
  obtain ⟨h1, h2⟩ := h.struct Tryz.underlying34
  rw [cells34] at h1
  have f0 : Rd enc Tryz.prog w 3 ((cs.drop 0).take (Tryz.prog.cellsOf 3)) := h2 0 _ rfl
  have f1 : Rd enc Tryz.prog w 3 ((cs.drop 1).take (Tryz.prog.cellsOf 3)) := h2 1 _ rfl
  have f2 : Rd enc Tryz.prog w 32 ((cs.drop 2).take (Tryz.prog.cellsOf 32)) := h2 2 _ rfl
  have f3 : Rd enc Tryz.prog w 27 ((cs.drop 10).take (Tryz.prog.cellsOf 27)) := h2 3 _ rfl
  rw [cells3] at f0 f1
  rw [cells32] at f2
  rw [cells27] at f3
  obtain ⟨d, hd, _⟩ := f0.int Tryz.underlying3
  obtain ⟨n, hn, _⟩ := f1.int Tryz.underlying3
  obtain ⟨x, ia, ic, ms, ba, bc, hx, hl⟩ := f2.letter
  obtain ⟨a, q, c, b, hb, rfl, hbs⟩ := f3.bytes
  obtain ⟨c0, c1, c2, c3, c4, c5, c6, c7, c8, c9, c10, rfl⟩ := list11 h1
  simp at hd hn hx hb
  obtain ⟨e2, e3, e4, e5, e6, e7, e8, e9⟩ := hx
  subst hd hn hb e2 e3 e4 e5 e6 e7 e8 e9
  exact ⟨⟨d, n, x, ia, ic, ms, ba, bc, a, c, b⟩, rfl, ⟨hl, hbs⟩⟩
theorem open_acts8 {v : Value} {d : DataW H} {ps : List MemPlace} {r : Reach} {base : Nat} (hok : Value.okWide Tryz.prog w r base 22 v)
    (h : DataW.Trod enc Tryz.prog w 0 (fun _ => true) true 22 v d ps) : ∃ (a : Option Addr) (c : Nat) (l : List MAct8), v = .slice a l.length c ∧ SlAt w w.heap.size 11 a l.length c (cells8 l) ∧ ∀ m ∈ l, m.Is w w.heap.size := by
  obtain ⟨a, n, c, xs, rfl, hsl, hel⟩ := open_slAt hok h Tryz.underlying22 cells34 (by omega)
  obtain ⟨ms, h1, h2, h3⟩ := rows_of (fun _ h => Rd.act8 h) n xs hsl.hlen hel
  subst h1
  rw [← show cells8 ms = ms.flatMap MAct8.cells from rfl] at h2
  subst h2
  exact ⟨a, c, ms, rfl, hsl, h3⟩
end

def greatE1 (m : MAct8) : Bool := greatL m.ms m.x.b.length || decide (100 < m.b.length)
def greatE (l : List MAct8) : Bool := ((l.take 60).any greatE1) || decide (60 < l.length)
theorem greatE_no {l : List MAct8} (h : greatE l = false) : l.length ≤ 60 ∧ ∀ m ∈ l, greatL m.ms m.x.b.length = false ∧ m.b.length ≤ 100 := by
  simp only [greatE, Bool.or_eq_false_iff, decide_eq_false_iff_not, List.any_eq_false] at h
  obtain ⟨h1, h2⟩ := h
  refine ⟨by omega, fun m hm => ?_⟩
  rw [List.take_of_length_le (by omega)] at h1
  have h3 := h1 m hm
  simp only [greatE1, Bool.or_eq_true, decide_eq_true_eq, not_or] at h3
  exact ⟨by simpa using h3.1, by omega⟩

set_option maxRecDepth 100000 in
set_option maxHeartbeats 1000000 in
theorem l18great (l : List MAct8) (a : Option Addr) (c : Nat) (w : World) (h : SlAt w w.heap.size 11 a l.length c (cells8 l)) (hr : ∀ m ∈ l, m.Is w w.heap.size) :
    Calls Tryz.prog 7 #[.slice a l.length c] w fun e w' => e = .returned (.bool (greatE l)) ∧ Below w.heap.size w w' := by
  have H := Lib.hid h
  have HX := Lib.hid hr
  have hmax := h.hmax
  have hle := h.hle
  unfold maxLen at hmax
  obtain ⟨G, hG⟩ : ∃ G, greatE l = G := ⟨_, rfl⟩
  rw [hG]
  have HG := Lib.hid hG
  clear h hr hG
  go_enter Tryz.func7, Tryz.ntmps7
  go_wp2_with fail
  obtain ⟨wo, rfl⟩ : ∃ wo : World, wo = w := ⟨_, rfl⟩
  go_loopw [3] (fun iv wr => ∃ i : Nat, iv = .int .i64 i ∧ i ≤ l.length ∧ i ≤ 60 ∧ ((l.take i).any greatE1) = false ∧ Below wo.heap.size wo wr) (fun iv _ => 60 - (intOf iv).toNat)
  case atStart => exact ⟨0, rfl, by omega, by omega, rfl, Below.refl _ _⟩
  case round =>
    obtain ⟨i, rfl, hi, hi2, hany, hbel⟩ := hrel
    have HA := Lib.hid hany
    have HB := Lib.hid hbel
    have hsz := hbel.size
    clear hany hbel
    by_cases hil : i < l.length
    · have t1 : decide (i < l.length) = true := by simpa using hil
      by_cases hi20 : i < 60
      · have t2 : decide ((i : Int) < 60) = true := by simp; omega
        obtain ⟨m, hm⟩ : ∃ m, l[i]? = some m := ⟨_, List.getElem?_eq_getElem hil⟩
        have HM := Lib.hid hm
        have hml := List.mem_of_getElem? hm
        obtain ⟨b, o, rfl, hb, hc⟩ := H.out.hat (by have := cells8_len l; omega)
        have hcl := cells8_len l
        have key : ∀ (W : World), Below wo.heap.size wo W → ∀ j v, j < 11 → m.cells[j]? = some v → W.cell? ⟨b, o + i * 11 + j, none⟩ = some v := fun W hW j v hj hv => by
          rw [hW.cell (p := ⟨b, o + i * 11 + j, none⟩) hb, Nat.add_assoc, hc _ (by omega), cells8_at l i m hm j hj, hv]
        have HK := Lib.hid key
        have k2 : wr.cell? ⟨b, o + i * 11 + 2, none⟩ = some (.int .i64 m.x.k) := key wr HB.out 2 _ (by omega) rfl
        have k3 : wr.cell? ⟨b, o + i * 11 + 2 + 1, none⟩ = some (.int .i64 m.x.t) := key wr HB.out 3 _ (by omega) rfl
        have k4 : wr.cell? ⟨b, o + i * 11 + 2 + 2, none⟩ = some (.int .i64 m.x.a) := key wr HB.out 4 _ (by omega) rfl
        have k5 : wr.cell? ⟨b, o + i * 11 + 2 + 3, none⟩ = some (.int .i64 m.x.u) := key wr HB.out 5 _ (by omega) rfl
        have k6 : wr.cell? ⟨b, o + i * 11 + 2 + 4, none⟩ = some (.int .i64 m.x.o) := key wr HB.out 6 _ (by omega) rfl
        have k7 : wr.cell? ⟨b, o + i * 11 + 2 + 5, none⟩ = some (.bool m.x.y) := key wr HB.out 7 _ (by omega) rfl
        have k8 : wr.cell? ⟨b, o + i * 11 + 2 + 6, none⟩ = some (.slice m.ia m.ms.length m.ic) := key wr HB.out 8 _ (by omega) rfl
        have k9 : wr.cell? ⟨b, o + i * 11 + 2 + 7, none⟩ = some (.slice m.ba m.x.b.length m.bc) := key wr HB.out 9 _ (by omega) rfl
        have hi0 : (0 : Int) ≤ (i : Int) := by omega
        have hi1 : (i : Int) < (l.length : Int) := by omega
        have HIS := Lib.hid ((HX.out m hml).below HB.out (Nat.le_refl _))
        clear hc hcl key hm hml
        go_wp2_with fail
        clear k2 k3 k4 k5 k6 k7 k8 k9
        refine (r15Great m.x m.ia m.ic m.ms m.ba m.bc _ (HIS.out.l.sl.mono hsz) (fun y hy => ⟨(HIS.out.l.its y hy).ln, fun hn => ((HIS.out.l.its y hy).bs hn).mono hsz⟩)).mono ?_
        rintro e w2 ⟨rfl, hb2⟩
        have HB2 := Lib.hid (HB.out.trans (hb2.mono hsz))
        clear hb2
        cases hgl : greatL m.ms m.x.b.length with
        | true =>
          have hg : G = true := by
            rw [← HG.out, greatE]
            have h8 : ((l.take 60).any greatE1) = true := List.any_eq_true.2 ⟨m, mem_take_at HM.out (by omega), by simp [greatE1, hgl]⟩
            rw [h8]; rfl
          subst hg
          clear hgl
          go_wp2
          (try rw [Exit.noGoto_ret])
          go_ret
          exact ⟨rfl, HB2.out⟩
        | false =>
          have HGL := Lib.hid hgl
          clear hgl
          have k10 : w2.cell? ⟨b, o + i * 11 + 10, none⟩ = some (.slice m.a m.b.length m.c) := HK.out w2 HB2.out 10 _ (by omega) rfl
          by_cases hlong : 100 < m.b.length
          · have t3 : decide ((100 : Int) < (m.b.length : Int)) = true := by simp; omega
            have hg : G = true := by
              rw [← HG.out, greatE]
              have h8 : ((l.take 60).any greatE1) = true := List.any_eq_true.2 ⟨m, mem_take_at HM.out (by omega), by simp [greatE1, hlong]⟩
              rw [h8]; rfl
            subst hg
            clear hlong
            go_wp2
            (try rw [Exit.noGoto_ret])
            go_ret
            exact ⟨rfl, HB2.out⟩
          · have t3 : decide ((100 : Int) < (m.b.length : Int)) = false := by simp; omega
            have HN := Lib.hid (show ((l.take (i + 1)).any greatE1) = false from by rw [any_take_succ HM.out, HA.out]; simp [greatE1, HGL.out, hlong])
            clear hlong
            go_wp2
            go_roundw
            case rel => exact ⟨i + 1, by go_num, by omega, by omega, HN.out, HB2.out⟩
            case measure => simp [intOf]; omega
      · have t2 : decide ((i : Int) < 60) = false := by simp; omega
        have hie : i = 60 := by omega
        have hg : G = true := by rw [← HG.out, greatE]; simp; omega
        have t4 : decide ((60 : Int) < (l.length : Int)) = true := by simp; omega
        subst hg
        go_wp2
        (try rw [Exit.noGoto_ret])
        go_ret
        exact ⟨rfl, HB.out⟩
    · have t1 : decide (i < l.length) = false := by simpa using hil
      have hie : i = l.length := by omega
      have hal : ((l.take 60).any greatE1) = false := by
        have h9 := HA.out
        rw [hie, List.take_of_length_le (Nat.le_refl _)] at h9
        rw [List.take_of_length_le (by omega)]
        exact h9
      have t4 : decide ((60 : Int) < (l.length : Int)) = false := by simp; omega
      have hg : G = false := by
        rw [← HG.out, greatE, hal]
        simp; omega
      subst hg
      clear hie hal
      go_wp2
      (try rw [Exit.noGoto_ret])
      go_ret
      exact ⟨rfl, HB.out⟩
end Go.Proofs.YtogcnfhmcpkdcaaGreat
