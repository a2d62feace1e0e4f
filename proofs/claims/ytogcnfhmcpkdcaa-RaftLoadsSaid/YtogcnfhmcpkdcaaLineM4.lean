/-
  Contract of Line.Put.
  Contract of the reference's Put of a line.
-/
import Derived.Test.YtogcnfhmcpkdcaaLine1
import Derived.Test.YtogcnfhmcpkdcaaPenB
import Derived.Test.YtogcnfhmcpkdcaaLaw4a
import Derived.Test.YtogcnfhmcpkdcaaLineM8
import Derived.Test.YtogcnfhmcpkdcaaLineM6
import Derived.Test.YtogcnfhmcpkdcaaRefNum
namespace Go.Proofs.Ytogcnfhmcpkdcaa
open Go.RowKit
set_option linter.unusedVariables false
set_option linter.unusedSimpArgs false

theorem putItems_append (a b : List PItem) : putItems (a ++ b) = putItems a ++ putItems b := by
  induction a with
  | nil => rfl
  | cons x l ih => simp [putItems, ih, List.append_assoc]
theorem putItems_take (l : List PItem) (k : Nat) : (putItems (l.take k)).length ≤ (putItems l).length := by
  have h := putItems_append (l.take k) (l.drop k)
  rw [List.take_append_drop] at h
  rw [h, List.length_append]; omega
theorem putItems_take_succ {ms : List MItem} {k : Nat} {m : MItem} (hm : ms[k]? = some m) : putItems ((ms.take (k + 1)).map MItem.it) = putItems ((ms.take k).map MItem.it) ++ putNum m.t.toNat ++ putText m.b := by
  have hl : k < ms.length := (List.getElem?_eq_some_iff.1 hm).1
  have e : ms[k] = m := by simpa [List.getElem?_eq_getElem hl] using hm
  rw [List.take_succ_eq_append_getElem hl, e, List.map_append, putItems_append]
  simp [putItems, List.append_assoc]
theorem putItems_text {ms : List MItem} {k : Nat} {m : MItem} (hm : ms[k]? = some m) : m.b.length ≤ (putItems (ms.map MItem.it)).length := by
  have hl : k < ms.length := (List.getElem?_eq_some_iff.1 hm).1
  have h := putItems_take (ms.map MItem.it) (k + 1)
  rw [← List.map_take, putItems_take_succ hm] at h
  simp [putText] at h
  omega

set_option maxRecDepth 100000 in
set_option maxHeartbeats 1000000 in
theorem linePutO (base p : Nat) (x : PLine) (hg : x.Good) (la : Option Addr) (lc : Nat) (ms : List MItem) (w : World) (h : LnAt w base p x la lc ms) (hlen : x.put.length ≤ 900000) :
    Calls Try.prog 65 #[.pointer (some ⟨p, 0, none⟩)] w fun e w' => ∃ a c, e = .returned (.slice a x.put.length c) ∧ BsAt w' w'.heap.size a x.put.length c x.put ∧ Below w.heap.size w w' ∧ w'.ownsRow w.heap.size 5 1 (.slice a x.put.length c) x.put.length (x.put.map bv) := by
  obtain ⟨c0, c1, c2, -⟩ := h.cells
  obtain ⟨B, hB⟩ : ∃ B : Nat, x.base = B := ⟨x.base.toNat, by have := hg.b0; omega⟩
  obtain ⟨T, hT⟩ : ∃ T : Nat, x.term = T := ⟨x.term.toNat, by have := hg.t0; omega⟩
  have hB1 : B ≤ 1099511627776 := by have := hg.b1; omega
  have hT1 : T ≤ 1099511627776 := by have := hg.t1; omega
  have hN : ms.length ≤ 4096 := by have := hg.n1; have := h.len; omega
  have hpl := h.lt
  have hput : x.put = putNum B ++ putNum T ++ putNum ms.length ++ putItems (ms.map MItem.it) := by
    rw [PLine.put, hB, hT, h.its, h.len]; rfl
  have hL0 : (putNum B ++ putNum T ++ putNum ms.length ++ putItems (ms.map MItem.it)).length ≤ 900000 := by rw [← hput]; exact hlen
  rw [hput]
  have H := Lib.hid h
  have HG := Lib.hid hg
  have hits := h.sl
  have HIT := Lib.hid hits
  have HRI := Lib.hid (show ∀ m ∈ ms, 0 ≤ m.t ∧ m.t ≤ 1099511627776 from fun m hm => by
    have h9 := hg.its m.it (by rw [← h.its]; exact List.mem_map_of_mem hm)
    have := (rightI_iff _).1 h9
    exact ⟨this.1, this.2.1⟩)
  rw [hB] at c0
  rw [hT] at c1
  have C1 := Lib.hid c1
  have C2 := Lib.hid c2
  have HPN := Lib.hid (PenAt.new 36 w)
  have HLEN := Lib.hid hL0
  clear h hg hB hT hput hlen hits c1 c2 hL0
  go_enter Try.func65, Try.ntmps65
  go_wp2_with fail
  refine (penNumB w.heap.size B (by omega) (.slice none 0 0) [] (by simp) _ HPN.out).mono ?_
  rintro e w2 ⟨rfl, v2, l2, hl2, hn2, hp2, hb2⟩
  have hbb2 : Below w.heap.size w w2 := ((Below.refl _ w).alloc (Nat.le_refl _) _).trans hb2
  simp only [List.length_nil] at hn2
  have c1 := (hbb2.cell (p := ⟨p, 1, none⟩) hpl).trans C1.out
  have HB2 := Lib.hid hbb2
  have HL2 := Lib.hid hl2
  have HP2 := Lib.hid hp2
  clear hb2 hbb2 hl2 hp2 c0
  go_wp2_with fail
  refine (penNumB w.heap.size T (by omega) v2 l2 (by omega) _ HP2.out).mono ?_
  rintro e w3 ⟨rfl, v3, l3, hl3, hn3, hp3, hb3⟩
  have hbb3 := HB2.out.trans hb3
  have c2 := (hbb3.cell (p := ⟨p, 2, none⟩) hpl).trans C2.out
  have HB3 := Lib.hid hbb3
  have HL3 := Lib.hid hl3
  have HP3 := Lib.hid hp3
  clear hb3 hbb3 hl3 hp3 c1
  go_wp2_with fail
  refine (penNumB w.heap.size ms.length (by omega) v3 l3 (by omega) _ HP3.out).mono ?_
  rintro e w4 ⟨rfl, v4, l4, hl4, hn4, hp4, hb4⟩
  have hbb4 := HB3.out.trans hb4
  have c2 := (hbb4.cell (p := ⟨p, 2, none⟩) hpl).trans C2.out
  have HB4 := Lib.hid hbb4
  have HL4 := Lib.hid (show l4 = putNum B ++ putNum T ++ putNum ms.length by rw [hl4, HL3.out, HL2.out]; simp)
  have HP4 := Lib.hid hp4
  clear hb4 hbb4 hl4 hp4 c2 hn2 hn3 hn4
  obtain ⟨d0, d1, d2⟩ : True ∧ True ∧ w4.cell? ⟨p, 2, none⟩ = some (.slice la ms.length lc) := ⟨trivial, trivial, (HB4.out.cell (p := ⟨p, 2, none⟩) hpl).trans C2.out⟩
  clear d0 d1
  go_wp2_with fail
  have hl4 : l4.length ≤ 900000 := by have := HLEN.out; rw [← HL4.out, List.length_append] at this; omega
  go_loopw [30] (fun iv wr => ∃ (i : Nat) (v : Value) (L : List UInt8), iv = .int .i64 i ∧ i ≤ ms.length ∧ L = l4 ++ putItems ((ms.take i).map MItem.it) ∧ PenAt 5 wr w.heap.size v L ∧ Below w.heap.size w wr) (fun iv _ => ms.length - (intOf iv).toNat)
  case atStart => exact ⟨0, v4, l4, rfl, by omega, by simp [putItems], HP4.out, HB4.out⟩
  case round =>
    obtain ⟨i, v, L, rfl, hi, hL, hp, hbel⟩ := hrel
    have HLL := Lib.hid hL
    have HP := Lib.hid hp
    have HB := Lib.hid hbel
    have hwr := hbel.size
    clear hL hp hbel d2
    by_cases hil : i < ms.length
    · obtain ⟨m, hm⟩ : ∃ m, ms[i]? = some m := ⟨_, List.getElem?_eq_getElem hil⟩
      have hmm := List.mem_of_getElem? hm
      have HM := Lib.hid hm
      obtain ⟨b, o, rfl, hb, k0, k1⟩ := HIT.out.cell hm
      have hbs := HIT.out.bs m hmm
      have hmn : m.n = m.b.length := hbs.hlen.symm
      rw [hmn] at k1
      obtain ⟨M, hM⟩ : ∃ M : Nat, m.t = M := ⟨m.t.toNat, by have := HRI.out m hmm; omega⟩
      have hM1 : M ≤ 1099511627776 := by have := HRI.out m hmm; omega
      rw [hM] at k0
      have c0 : wr.cell? ⟨b, o + i * 2, none⟩ = some (.int .i64 M) := (HB.out.cell (p := ⟨b, o + i * 2, none⟩) hb).trans k0
      have c1 : wr.cell? ⟨b, o + i * 2 + 1, none⟩ = some (.slice m.a m.b.length m.c) := (HB.out.cell (p := ⟨b, o + (i * 2 + 1), none⟩) hb).trans k1
      have HBM := Lib.hid (show BsAt w w.heap.size m.a m.b.length m.c m.b from by rw [← hmn]; exact hbs)
      have HMT := Lib.hid (show m.t.toNat = M by omega)
      have tk : decide ((i : Int) < (ms.length : Int)) = true := by simpa using hil
      have hi0 : (0 : Int) ≤ (i : Int) := by omega
      have hi1 : (i : Int) < (ms.length : Int) := by omega
      have hLl : L.length ≤ 900000 := by
        have h9 := HLEN.out
        rw [← HL4.out, List.length_append] at h9
        have h8 := putItems_take (ms.map MItem.it) i
        rw [HLL.out, List.length_append, List.map_take]
        omega
      have hbl : m.b.length ≤ 900000 := by
        have h9 := HLEN.out
        rw [List.length_append] at h9
        have h8 := putItems_text hm
        omega
      obtain ⟨A, hA⟩ : ∃ A, A = wr.alloc (.cells #[.int .i64 M, .slice m.a m.b.length m.c] 45) := ⟨_, rfl⟩
      have hbA : Below wr.heap.size wr A := by rw [hA]; exact (Below.refl _ _).alloc (Nat.le_refl _) _
      have hrA : A.heap[wr.heap.size]? = some (.cells #[.int .i64 M, .slice m.a m.b.length m.c] 45 (0, 0)) := by rw [hA]; exact heap_alloc_new _ _
      have HA := Lib.hid hA
      have HRA := Lib.hid hrA
      have HBA := Lib.hid (HB.out.trans (hbA.mono hwr))
      have HPA := Lib.hid (HP.out.below hbA)
      have hsA : A.heap.size = wr.heap.size + 1 := by rw [hA]; simp
      have hqr : w.heap.size < wr.heap.size := HP.out.lt
      clear k0 k1 hm hmm hbs hmn hM hA hbA hrA
      go_wp2_with fail
      rw [← HA.out]
      refine (penNum w.heap.size M (by omega) v L (by omega) _ HPA.out).mono ?_
      rintro e w5 ⟨rfl, v5, hp5, ht5⟩
      obtain ⟨l5, hl5⟩ : ∃ l5, l5 = L ++ putNum M := ⟨_, rfl⟩
      have hn5 : l5.length ≤ 900009 := by rw [hl5, List.length_append]; have := putNum_le9 (show M < 18446744073709551616 by omega); omega
      rw [← hl5] at hp5
      have hr5 := (ht5.block wr.heap.size (by omega) (by omega) (fun e => by have := (own_lt HP.out.own e).2; omega)).trans HRA.out
      have c5 : w5.cell? ⟨wr.heap.size, 1, none⟩ = some (.slice m.a m.b.length m.c) := cell_of_row w5 wr.heap.size 1 _ _ _ hr5
      have HB5 := Lib.hid (HBA.out.trans (ht5.below HPA.out (Nat.le_refl _)))
      have HL5 := Lib.hid hl5
      have HP5 := Lib.hid hp5
      have HBM5 := Lib.hid (HBM.out.below HB5.out (Nat.le_refl _))
      clear hl5 hp5 ht5 hr5 c0 c1
      go_wp2_with fail
      refine (penTextB w.heap.size v5 l5 (by omega) m.b m.a m.b.length m.c (by omega) _ HBM5.out HP5.out).mono ?_
      rintro e w6 ⟨rfl, v6, l6, hl6, hn6, hp6, hb6⟩
      have HB6 := Lib.hid (HB5.out.trans hb6)
      have HL6 := Lib.hid (show l6 = l4 ++ putItems ((ms.take (i + 1)).map MItem.it) by
        rw [hl6, HL5.out, HLL.out, putItems_take_succ HM.out, HMT.out]
        simp [List.append_assoc])
      have HP6 := Lib.hid hp6
      clear hl6 hn6 hp6 hb6 c5
      go_wp2
      go_roundw
      case rel => exact ⟨i + 1, v6, l6, by go_num, hil, HL6.out, HP6.out, HB6.out⟩
      case measure => simp [intOf]; omega
    · have tk : decide ((i : Int) < (ms.length : Int)) = false := by simpa using hil
      have hie : i = ms.length := by omega
      subst hie
      have hLf : L = putNum B ++ putNum T ++ putNum ms.length ++ putItems (ms.map MItem.it) := by rw [HLL.out, HL4.out, List.take_length]
      have HLF := Lib.hid hLf
      rw [← hLf] at HLEN
      have hlf := HLEN.out
      go_wp2_with fail
      refine (penBytes w.heap.size v L (by omega) _ HP.out).mono ?_
      rintro e w9 ⟨a9, c9, rfl, hbs9, hb9, ho9⟩
      have HBS9 := Lib.hid hbs9
      have HO9 := Lib.hid (World.ownsRow.mono ho9 hwr)
      have HB9 := Lib.hid (HB.out.trans (hb9.mono hwr))
      clear hbs9 hb9 ho9 hLf
      go_wp2
      go_ret
      rw [← HLF.out]
      exact ⟨a9, c9, rfl, HBS9.out, HB9.out, HO9.out⟩

theorem linePut (base p : Nat) (x : PLine) (hg : x.Good) (la : Option Addr) (lc : Nat) (ms : List MItem) (w : World) (h : LnAt w base p x la lc ms) (hlen : x.put.length ≤ 900000) :
    Calls Try.prog 65 #[.pointer (some ⟨p, 0, none⟩)] w fun e w' => ∃ a c, e = .returned (.slice a x.put.length c) ∧ BsAt w' w'.heap.size a x.put.length c x.put ∧ Below w.heap.size w w' :=
  (linePutO base p x hg la lc ms w h hlen).mono fun e w' ⟨a, c, h1, h2, h3, _⟩ => ⟨a, c, h1, h2, h3⟩
end Go.Proofs.Ytogcnfhmcpkdcaa

namespace Go.Proofs.Ytogcnfhmcpkdcaa
open Go.RowKit
set_option linter.unusedVariables false
set_option linter.unusedSimpArgs false

/-- what the drawn region of Put's loop reads -/
structure PutS (g : Nat) (sl : Value) (b o : Nat) (t : Int) (v : Value) (W : World) : Prop where
  g2 : W.cell? ⟨g, 2, none⟩ = some sl
  k0 : W.cell? ⟨b, o, none⟩ = some (.int .i64 t)
  k1 : W.cell? ⟨b, o + 1, none⟩ = some v
theorem PutS.keep {g : Nat} {sl : Value} {b o : Nat} {t : Int} {v : Value} {W W' : World} (h : PutS g sl b o t v W) {N : Nat} (hb : Below N W W') (h1 : g < N) (h2 : b < N) : PutS g sl b o t v W' :=
  ⟨(hb.cell (p := ⟨g, _, none⟩) h1).trans h.g2, (hb.cell (p := ⟨b, _, none⟩) h2).trans h.k0, (hb.cell (p := ⟨b, _, none⟩) h2).trans h.k1⟩

/-- an own row of bytes, as a slice that is read -/
theorem slOf {W : World} {base n c : Nat} {a : Option Addr} {cs : List Value} (h : W.ownsRow base 5 1 (.slice a n c) n cs) : SlAt W W.heap.size 1 a n c cs := by
  obtain ⟨a', c', e, hs⟩ := SlAt.ofOwns h
  injection e with e1 _ e2
  subst e1 e2
  exact hs
theorem one_bv (l : List UInt8) : ∀ u ∈ l.map bv, u.oneCell' = true := by
  intro u hu
  simp at hu
  obtain ⟨x, _, rfl⟩ := hu
  rfl

set_option maxRecDepth 100000 in
set_option maxHeartbeats 1000000 in
theorem r17Put (x : PLine) (hg : x.Good) (a : Option Addr) (c : Nat) (ms : List MItem) (w : World) (h : RAt w w.heap.size x a c ms) (hlen : x.put.length ≤ 900000) :
    Calls Try.prog 67 #[rv x a ms.length c] w fun e w' => ∃ a c, e = .returned (.slice a x.put.length c) ∧ BsAt w' w'.heap.size a x.put.length c x.put ∧ Below w.heap.size w w' := by
  obtain ⟨i0, hi, hz0, hz1, hz2⟩ := info_parts infoU8
  obtain ⟨B, hB⟩ : ∃ B : Nat, x.base = B := ⟨x.base.toNat, by have := hg.b0; omega⟩
  obtain ⟨T, hT⟩ : ∃ T : Nat, x.term = T := ⟨x.term.toNat, by have := hg.t0; omega⟩
  have hB1 : B ≤ 1099511627776 := by have := hg.b1; omega
  have hT1 : T ≤ 1099511627776 := by have := hg.t1; omega
  have hN : ms.length ≤ 4096 := by have := hg.n1; have := h.len; omega
  have hput : x.put = putNum B ++ putNum T ++ putNum ms.length ++ putItems (ms.map MItem.it) := by
    rw [PLine.put, hB, hT, h.eq, h.len]; rfl
  have hL0 : (putNum B ++ putNum T ++ putNum ms.length ++ putItems (ms.map MItem.it)).length ≤ 900000 := by rw [← hput]; exact hlen
  rw [hput]
  have HIT := Lib.hid h.its
  have HRI := Lib.hid (show ∀ m ∈ ms, 0 ≤ m.t ∧ m.t ≤ 1099511627776 from fun m hm => by
    have h9 := hg.its m.it (by rw [← h.eq]; exact List.mem_map_of_mem hm)
    have := (rightI_iff _).1 h9
    exact ⟨this.1, this.2.1⟩)
  have HLEN := Lib.hid hL0
  rw [show rv x a ms.length c = .agg #[.int .i64 B, .int .i64 T, .slice a ms.length c] by rw [rv, hB, hT]]
  obtain ⟨W1, hW1⟩ : ∃ W1, W1 = w.alloc (.cells #[.int .i64 B, .int .i64 T, .slice a ms.length c] 88) := ⟨_, rfl⟩
  have HW1 := Lib.hid hW1
  have hs1 : W1.heap.size = w.heap.size + 1 := by rw [hW1]; simp
  have hb1 : Below w.heap.size w W1 := by rw [hW1]; exact (Below.refl _ _).alloc (Nat.le_refl _) _
  have hr1 : W1.heap[w.heap.size]? = some (.cells #[.int .i64 B, .int .i64 T, .slice a ms.length c] 88 (0, 0)) := by rw [hW1]; exact heap_alloc_new _ _
  have HB1 := Lib.hid hb1
  have HR1 := Lib.hid hr1
  have wB : IntKind.u64.wrap (B : Int) = B := IntWalk.u64_in _ (by omega)
  have wT : IntKind.u64.wrap (T : Int) = T := IntWalk.u64_in _ (by omega)
  have hlB := putNum_le9 (show B < 18446744073709551616 by omega)
  have hlT := putNum_le9 (show T < 18446744073709551616 by omega)
  have hlN := putNum_le9 (show ms.length < 18446744073709551616 by omega)
  have HS1 := Lib.hid (show LnS w.heap.size B T a ms.length c W1 from ⟨cell_of_row W1 w.heap.size 0 _ _ _ hr1, cell_of_row W1 w.heap.size 1 _ _ _ hr1, cell_of_row W1 w.heap.size 2 _ _ _ hr1⟩)
  clear h hg hB hT hput hlen hL0 hW1 hb1 hr1
  go_enter Try.func67, Try.ntmps67
  go_wp2_with fail
  rw [← HW1.out]
  refine wp_region_any (by kernel_rfl) ?_
  refine wpAny_of_held (S := LnS w.heap.size B T a ms.length c) _ _ _ _ ?_
  have hS0 : LnS w.heap.size B T a ms.length c W1.drew := HS1.out.keep (N := W1.heap.size) (Below.refl _ _).drew (by omega)
  refine heldTake 0 5 rfl rfl (by kernel_rfl) (by kernel_rfl) (by kernel_rfl) (fun _ _ _ h => h) hS0 (.inl ⟨by rfl, by intro w' hS; obtain ⟨s1, s2, s3⟩ := hS; go_simp; (try rfl)⟩) ?_
  simp only [List.set_cons_zero, List.set_cons_succ]
  refine heldTake 1 6 rfl rfl (by kernel_rfl) (by kernel_rfl) (by kernel_rfl) (fun _ _ _ h => h) hS0 (.inl ⟨by rfl, by intro w' hS; obtain ⟨s1, s2, s3⟩ := hS; go_simp; (try rfl)⟩) ?_
  simp only [List.set_cons_zero, List.set_cons_succ]
  refine heldTake 2 7 rfl rfl (by kernel_rfl) (by kernel_rfl) (by kernel_rfl) (fun _ _ _ h => h) hS0 (.inl ⟨by rfl, by intro w' hS; obtain ⟨s1, s2, s3⟩ := hS; go_simp; (try rfl)⟩) ?_
  simp only [List.set_cons_zero, List.set_cons_succ]
  refine heldTake 4 9 rfl rfl (by kernel_rfl) (by kernel_rfl) (by kernel_rfl) (fun _ _ _ h => h) hS0 (.inl ⟨by rfl, by intro w' hS; obtain ⟨s1, s2, s3⟩ := hS; go_simp; (try rfl)⟩) ?_
  simp only [List.set_cons_zero, List.set_cons_succ]
  refine heldTake 5 10 rfl rfl (by kernel_rfl) (by kernel_rfl) (by kernel_rfl) (fun _ _ _ h => h) hS0 (.inl ⟨by rfl, by intro w' hS; obtain ⟨s1, s2, s3⟩ := hS; go_simp; (try rfl)⟩) ?_
  simp only [List.set_cons_zero, List.set_cons_succ]
  refine heldTake 6 11 rfl rfl (by kernel_rfl) (by kernel_rfl) (by kernel_rfl) (fun _ _ _ h => h) hS0 (.inl ⟨by rfl, by intro w' hS; obtain ⟨s1, s2, s3⟩ := hS; go_simp; (try rfl)⟩) ?_
  simp only [List.set_cons_zero, List.set_cons_succ]
  clear hS0
  refine heldOne 3 (by kernel_rfl) rfl (by rfl) ?_
  go_simp
  have hdr : Below W1.heap.size W1 W1.drew := (Below.refl _ _).drew
  refine (refNum B (by omega) _).mono ?_
  rintro e w3 ⟨a3, c3, rfl, hown3, hb3⟩
  have hbb3 := hdr.trans hb3
  have HB3 := Lib.hid hbb3
  have HO3 := Lib.hid (show w3.ownsRow W1.heap.size 5 1 (.slice a3 (putNum B).length c3) (putNum B).length ((putNum B).map bv) from hown3)
  have hS3 := HS1.out.keep hbb3 (by omega)
  have hs3 := hbb3.size
  refine ⟨hS3, ?_⟩
  clear hS3 hbb3 hown3 hb3 hdr
  refine heldOne 7 (by kernel_rfl) rfl (by rfl) ?_
  go_simp
  refine (refNum T (by omega) _).mono ?_
  rintro e w4 ⟨a4, c4, rfl, hown4, hb4⟩
  have HO4 := Lib.hid (own_below' HO3.out hb4)
  have HS4 := Lib.hid ((slOf hown4))
  have hbb4 := HB3.out.trans (hb4.mono hs3)
  have HB4 := Lib.hid hbb4
  have hs4 := hbb4.size
  have hS4 := HS1.out.keep hbb4 (by omega)
  refine ⟨hS4, ?_⟩
  clear hS4 hbb4 hown4 hb4
  refine heldOne 8 (by kernel_rfl) rfl (by rfl) ?_
  refine wp_append_sl w4 (.tmp 8) (.tmp 12) 22 rfl W1.heap.size 5 i0 (.int .u8 0) 1 1 Try.underlying22 hi hz0 hz1 hz2 rfl (by decide) (.slice a3 (putNum B).length c3) (putNum B).length ((putNum B).map bv) rfl HO4.out w4.heap.size a4 (putNum T).length c4 ((putNum T).map bv) rfl HS4.out (one_bv _) (by unfold maxLen; omega) (by omega) hs4 ?_
  intro a5 c5 w5 o5 g5 _
  have BU5 := Lib.hid (show Below W1.heap.size W1 w5 from HB4.out.grown g5 hs4 (fun k hk => (own_lt HO4.out hk).1))
  have HO5 := Lib.hid (show w5.ownsRow W1.heap.size 5 1 (.slice a5 (putNum B ++ putNum T).length c5) (putNum B ++ putNum T).length ((putNum B ++ putNum T).map bv) from by rw [List.length_append, List.map_append]; exact o5)
  have hS5 := HS1.out.keep BU5.out (by omega)
  obtain ⟨P, hP⟩ : ∃ P, P = putNum B ++ putNum T := ⟨_, rfl⟩
  have hPl : P.length = (putNum B).length + (putNum T).length := by rw [hP]; simp
  rw [← hPl]
  rw [← hP] at HO5
  have HP := Lib.hid hP
  have hP18 : P.length ≤ 18 := by omega
  refine ⟨hS5, ?_⟩
  clear o5 g5 hP hPl
  go_simp
  refine heldTake 9 3 rfl rfl (by kernel_rfl) (by kernel_rfl) (by kernel_rfl) (fun _ _ _ h => h) hS5 (.inl ⟨by rfl, by intro w' hS; obtain ⟨s1, s2, s3⟩ := hS; go_simp; (try rfl)⟩) ?_
  simp only [List.set_cons_zero, List.set_cons_succ]
  refine wpAnyH_done (by kernel_rfl) ?_ _
  have d2 := hS5.g2
  have wN : IntKind.u64.wrap (ms.length : Int) = ms.length := IntWalk.u64_in _ (by omega)
  have hs5 := BU5.out.size
  clear hS5
  go_wp2_with fail
  refine (refNum ms.length (by omega) _).mono ?_
  rintro e w6 ⟨a6, c6, rfl, hown6, hb6⟩
  have HO6 := Lib.hid (own_below' HO5.out hb6)
  have HS6 := Lib.hid (slOf hown6)
  have HB6 := Lib.hid (BU5.out.trans (hb6.mono hs5))
  have hs6 := HB6.out.size
  clear hown6 hb6 d2
  go_wp2_with (at_builtin; go_must (refine wpList_append_sl _ rfl (.tmp 14) (.tmp 19) 22 rfl W1.heap.size 5 i0 (.int .u8 0) 1 1 Try.underlying22 hi hz0 hz1 hz2 rfl (by decide) (.slice a5 P.length c5) P.length (P.map bv) rfl HO6.out w6.heap.size a6 (putNum ms.length).length c6 ((putNum ms.length).map bv) rfl HS6.out (one_bv _) (by unfold maxLen; omega) (by omega) hs6 ?_); intro a7 c7 w7 o7 g7 _)
  obtain ⟨P2, hP2⟩ : ∃ P2, P2 = P ++ putNum ms.length := ⟨_, rfl⟩
  have hP2l : P2.length = P.length + (putNum ms.length).length := by rw [hP2]; simp
  have HO7 := Lib.hid (show w7.ownsRow W1.heap.size 5 1 (.slice a7 P2.length c7) P2.length (P2.map bv) from by rw [hP2l, hP2, List.map_append]; exact o7)
  have HB7 := Lib.hid (show Below W1.heap.size W1 w7 from HB6.out.grown g7 hs6 (fun k hk => (own_lt HO6.out hk).1))
  rw [← hP2l]
  have HP2 := Lib.hid (show P2 = putNum B ++ putNum T ++ putNum ms.length by rw [hP2, HP.out])
  clear hP2 hP2l o7 g7
  go_loopw [3, 4] (fun sv iv wr => ∃ (i : Nat) (a : Option Addr) (c : Nat) (L : List UInt8), sv = .slice a L.length c ∧ iv = .int .i64 i ∧ i ≤ ms.length ∧ L = P2 ++ putItems ((ms.take i).map MItem.it) ∧ wr.ownsRow W1.heap.size 5 1 (.slice a L.length c) L.length (L.map bv) ∧ Below W1.heap.size W1 wr) (fun _ iv _ => ms.length - (intOf iv).toNat)
  case atStart => exact ⟨0, a7, c7, P2, rfl, rfl, by omega, by simp [putItems], HO7.out, HB7.out⟩
  case round =>
    obtain ⟨i, av, cv, L, rfl, rfl, hi9, hL, hown, hbel⟩ := hrel
    have HLL := Lib.hid hL
    have HO := Lib.hid hown
    have HB := Lib.hid hbel
    have hwr := hbel.size
    have HSR := HS1.out.keep hbel (by omega)
    have d2 := HSR.g2
    clear hL hown hbel HSR
    by_cases hil : i < ms.length
    · obtain ⟨m, hm⟩ : ∃ m, ms[i]? = some m := ⟨_, List.getElem?_eq_getElem hil⟩
      have hmm := List.mem_of_getElem? hm
      have HM := Lib.hid hm
      obtain ⟨b, o, rfl, hb, k0, k1⟩ := HIT.out.cell hm
      have hbs := HIT.out.bs m hmm
      have hmn : m.n = m.b.length := hbs.hlen.symm
      rw [hmn] at k1
      obtain ⟨M, hM⟩ : ∃ M : Nat, m.t = M := ⟨m.t.toNat, by have := HRI.out m hmm; omega⟩
      have hM1 : M ≤ 1099511627776 := by have := HRI.out m hmm; omega
      rw [hM] at k0
      have hbw : Below w.heap.size w wr := HB1.out.trans (HB.out.mono (by omega))
      have HK := Lib.hid (show PutS w.heap.size (.slice (some ⟨b, o, none⟩) ms.length c) b (o + i * 2) M (.slice m.a m.b.length m.c) wr from ⟨d2, (hbw.cell (p := ⟨b, o + i * 2, none⟩) hb).trans k0, (hbw.cell (p := ⟨b, o + (i * 2 + 1), none⟩) hb).trans k1⟩)
      have HBM := Lib.hid (show BsAt w w.heap.size m.a m.b.length m.c m.b from by rw [← hmn]; exact hbs)
      have HMT := Lib.hid (show m.t.toNat = M by omega)
      have tk : decide ((i : Int) < (ms.length : Int)) = true := by simpa using hil
      have hi0 : (0 : Int) ≤ (i : Int) := by omega
      have hi1 : (i : Int) < (ms.length : Int) := by omega
      have hLl : L.length ≤ 900000 := by
        have h9 := HLEN.out
        rw [← HP2.out, List.length_append] at h9
        have h8 := putItems_take (ms.map MItem.it) i
        rw [HLL.out, List.length_append, List.map_take]
        omega
      have hbl : m.b.length ≤ 900000 := by
        have h9 := HLEN.out
        rw [List.length_append] at h9
        have h8 := putItems_text hm
        omega
      have wM : IntKind.u64.wrap (M : Int) = M := IntWalk.u64_in _ (by omega)
      have wL : IntKind.u64.wrap (m.b.length : Int) = m.b.length := IntWalk.u64_in _ (by omega)
      have hlM := putNum_le9 (show M < 18446744073709551616 by omega)
      have hlL := putNum_le9 (show m.b.length < 18446744073709551616 by omega)
      clear k0 k1 hm hmm hbs hmn hM hbw
      go_wp2_with fail
      refine wp_region_any (by kernel_rfl) ?_
      refine wpAny_of_held (S := PutS w.heap.size (.slice (some ⟨b, o, none⟩) ms.length c) b (o + i * 2) M (.slice m.a m.b.length m.c)) _ _ _ _ ?_
      have hdr : Below wr.heap.size wr wr.drew := (Below.refl _ _).drew
      have hS0 := HK.out.keep hdr (by omega) (by omega)
      clear d2
      refine heldTake 0 28 rfl rfl (by kernel_rfl) (by kernel_rfl) (by kernel_rfl) (fun _ _ _ h => h) hS0 (.inl ⟨by rfl, by intro w' hS; obtain ⟨s1, s2, s3⟩ := hS; go_simp; (try rfl)⟩) ?_
      simp only [List.set_cons_zero, List.set_cons_succ]
      refine heldTake 1 29 rfl rfl (by kernel_rfl) (by kernel_rfl) (by kernel_rfl) (fun _ _ _ h => h) hS0 (.inl ⟨by rfl, by intro w' hS; obtain ⟨s1, s2, s3⟩ := hS; go_simp; (try rfl)⟩) ?_
      simp only [List.set_cons_zero, List.set_cons_succ]
      refine heldTake 2 30 rfl rfl (by kernel_rfl) (by kernel_rfl) (by kernel_rfl) (fun _ _ _ h => h) hS0 (.inl ⟨by rfl, by intro w' hS; obtain ⟨s1, s2, s3⟩ := hS; go_simp; (try rfl)⟩) ?_
      simp only [List.set_cons_zero, List.set_cons_succ]
      refine heldTake 3 31 rfl rfl (by kernel_rfl) (by kernel_rfl) (by kernel_rfl) (fun _ _ _ h => h) hS0 (.inl ⟨by rfl, by intro w' hS; obtain ⟨s1, s2, s3⟩ := hS; go_simp; (try rfl)⟩) ?_
      simp only [List.set_cons_zero, List.set_cons_succ]
      refine heldTake 4 32 rfl rfl (by kernel_rfl) (by kernel_rfl) (by kernel_rfl) (fun _ _ _ h => h) hS0 (.inl ⟨by rfl, by intro w' hS; obtain ⟨s1, s2, s3⟩ := hS; go_simp; (try rfl)⟩) ?_
      simp only [List.set_cons_zero, List.set_cons_succ]
      refine heldTake 5 33 rfl rfl (by kernel_rfl) (by kernel_rfl) (by kernel_rfl) (fun _ _ _ h => h) hS0 (.inl ⟨by rfl, by intro w' hS; obtain ⟨s1, s2, s3⟩ := hS; go_simp; (try rfl)⟩) ?_
      simp only [List.set_cons_zero, List.set_cons_succ]
      refine heldTake 6 34 rfl rfl (by kernel_rfl) (by kernel_rfl) (by kernel_rfl) (fun _ _ _ h => h) hS0 (.inl ⟨by rfl, by intro w' hS; obtain ⟨s1, s2, s3⟩ := hS; go_simp; (try rfl)⟩) ?_
      simp only [List.set_cons_zero, List.set_cons_succ]
      refine heldTake 7 35 rfl rfl (by kernel_rfl) (by kernel_rfl) (by kernel_rfl) (fun _ _ _ h => h) hS0 (.inl ⟨by rfl, by intro w' hS; obtain ⟨s1, s2, s3⟩ := hS; go_simp; (try rfl)⟩) ?_
      simp only [List.set_cons_zero, List.set_cons_succ]
      refine heldTake 10 38 rfl rfl (by kernel_rfl) (by kernel_rfl) (by kernel_rfl) (fun _ _ _ h => h) hS0 (.inl ⟨by rfl, by intro w' hS; obtain ⟨s1, s2, s3⟩ := hS; go_simp; (try rfl)⟩) ?_
      simp only [List.set_cons_zero, List.set_cons_succ]
      refine heldTake 11 39 rfl rfl (by kernel_rfl) (by kernel_rfl) (by kernel_rfl) (fun _ _ _ h => h) hS0 (.inl ⟨by rfl, by intro w' hS; obtain ⟨s1, s2, s3⟩ := hS; go_simp; (try rfl)⟩) ?_
      simp only [List.set_cons_zero, List.set_cons_succ]
      refine heldTake 12 40 rfl rfl (by kernel_rfl) (by kernel_rfl) (by kernel_rfl) (fun _ _ _ h => h) hS0 (.inl ⟨by rfl, by intro w' hS; obtain ⟨s1, s2, s3⟩ := hS; go_simp; (try rfl)⟩) ?_
      simp only [List.set_cons_zero, List.set_cons_succ]
      refine heldTake 13 41 rfl rfl (by kernel_rfl) (by kernel_rfl) (by kernel_rfl) (fun _ _ _ h => h) hS0 (.inl ⟨by rfl, by intro w' hS; obtain ⟨s1, s2, s3⟩ := hS; go_simp; (try rfl)⟩) ?_
      simp only [List.set_cons_zero, List.set_cons_succ]
      refine heldTake 14 42 rfl rfl (by kernel_rfl) (by kernel_rfl) (by kernel_rfl) (fun _ _ _ h => h) hS0 (.inl ⟨by rfl, by intro w' hS; obtain ⟨s1, s2, s3⟩ := hS; go_simp; (try rfl)⟩) ?_
      simp only [List.set_cons_zero, List.set_cons_succ]
      refine heldTake 15 43 rfl rfl (by kernel_rfl) (by kernel_rfl) (by kernel_rfl) (fun _ _ _ h => h) hS0 (.inl ⟨by rfl, by intro w' hS; obtain ⟨s1, s2, s3⟩ := hS; go_simp; (try rfl)⟩) ?_
      simp only [List.set_cons_zero, List.set_cons_succ]
      refine heldTake 16 44 rfl rfl (by kernel_rfl) (by kernel_rfl) (by kernel_rfl) (fun _ _ _ h => h) hS0 (.inl ⟨by rfl, by intro w' hS; obtain ⟨s1, s2, s3⟩ := hS; go_simp; (try rfl)⟩) ?_
      simp only [List.set_cons_zero, List.set_cons_succ]
      refine heldTake 17 45 rfl rfl (by kernel_rfl) (by kernel_rfl) (by kernel_rfl) (fun _ _ _ h => h) hS0 (.inl ⟨by rfl, by intro w' hS; obtain ⟨s1, s2, s3⟩ := hS; go_simp; (try rfl)⟩) ?_
      simp only [List.set_cons_zero, List.set_cons_succ]
      clear hS0
      refine heldOne 8 (by kernel_rfl) rfl (by rfl) ?_
      go_simp
      refine (refNum M (by omega) _).mono ?_
      rintro e y3 ⟨a3, c3, rfl, hown3, hb3⟩
      have hbb3 := hdr.trans hb3
      have YB3 := Lib.hid hbb3
      have YO3 := Lib.hid (own_below' HO.out hbb3)
      have YS3 := Lib.hid (slOf hown3)
      have ys3 := hbb3.size
      have hS3 := HK.out.keep hbb3 (by omega) (by omega)
      refine ⟨hS3, ?_⟩
      clear hS3 hbb3 hown3 hb3 hdr
      refine heldOne 9 (by kernel_rfl) rfl (by rfl) ?_
      refine wp_append_sl y3 (.tmp 28) (.tmp 36) 22 rfl W1.heap.size 5 i0 (.int .u8 0) 1 1 Try.underlying22 hi hz0 hz1 hz2 rfl (by decide) (.slice av L.length cv) L.length (L.map bv) rfl YO3.out y3.heap.size a3 (putNum M).length c3 ((putNum M).map bv) rfl YS3.out (one_bv _) (by unfold maxLen; omega) (by omega) (by omega) ?_
      intro a4 c4 y4 o4 g4 _
      obtain ⟨P4, hP4⟩ : ∃ P4, P4 = L ++ putNum M := ⟨_, rfl⟩
      have hP4l : P4.length = L.length + (putNum M).length := by rw [hP4]; simp
      have YB4 := Lib.hid (show Below W1.heap.size W1 y4 from (HB.out.trans (YB3.out.mono hwr)).grown g4 (by omega) (fun k hk => (own_lt YO3.out hk).1))
      have YO4 := Lib.hid (show y4.ownsRow W1.heap.size 5 1 (.slice a4 P4.length c4) P4.length (P4.map bv) from by rw [hP4l, hP4, List.map_append]; exact o4)
      have hK4 : PutS w.heap.size (.slice (some ⟨b, o, none⟩) ms.length c) b (o + i * 2) M (.slice m.a m.b.length m.c) y4 := by
        have hfar : ∀ k, k < W1.heap.size → y4.heap[k]? = wr.heap[k]? := fun k hk => (g4.block k (by omega) (fun e => by have := (own_lt YO3.out e.symm).1; omega)).trans (YB3.out.block k (by omega))
        exact HK.out.keep (N := W1.heap.size) ⟨g4.os.trans YB3.out.os, g4.tape.trans YB3.out.tape, g4.output.trans YB3.out.output, Nat.le_trans ys3 g4.size, hfar⟩ (by omega) (by omega)
      have ys4 := YB4.out.size
      have HK4 := Lib.hid hK4
      rw [← hP4l]
      have YP4 := Lib.hid hP4
      have hP4b : P4.length ≤ 900009 := by omega
      refine ⟨hK4, ?_⟩
      clear hK4 o4 g4 hP4 hP4l
      refine heldOne 18 (by kernel_rfl) rfl (by rfl) ?_
      go_simp
      refine (refNum m.b.length (by omega) _).mono ?_
      rintro e y5 ⟨a5, c5, rfl, hown5, hb5⟩
      have YO5 := Lib.hid (own_below' YO4.out hb5)
      have YS5 := Lib.hid (slOf hown5)
      have YB5 := Lib.hid (YB4.out.trans (hb5.mono ys4))
      have ys5 := YB5.out.size
      have hS5 := HK4.out.keep hb5 (by omega) (by omega)
      have HK5 := Lib.hid hS5
      refine ⟨hS5, ?_⟩
      clear hS5 hown5 hb5
      refine heldOne 19 (by kernel_rfl) rfl (by rfl) ?_
      refine wp_append_sl y5 (.tmp 37) (.tmp 46) 22 rfl W1.heap.size 5 i0 (.int .u8 0) 1 1 Try.underlying22 hi hz0 hz1 hz2 rfl (by decide) (.slice a4 P4.length c4) P4.length (P4.map bv) rfl YO5.out y5.heap.size a5 (putNum m.b.length).length c5 ((putNum m.b.length).map bv) rfl YS5.out (one_bv _) (by unfold maxLen; omega) (by omega) (by omega) ?_
      intro a6 c6 y6 o6 g6 _
      obtain ⟨P6, hP6⟩ : ∃ P6, P6 = P4 ++ putNum m.b.length := ⟨_, rfl⟩
      have hP6l : P6.length = P4.length + (putNum m.b.length).length := by rw [hP6]; simp
      have YB6 := Lib.hid (show Below W1.heap.size W1 y6 from YB5.out.grown g6 ys5 (fun k hk => (own_lt YO5.out hk).1))
      have YO6 := Lib.hid (show y6.ownsRow W1.heap.size 5 1 (.slice a6 P6.length c6) P6.length (P6.map bv) from by rw [hP6l, hP6, List.map_append]; exact o6)
      have hK6 : PutS w.heap.size (.slice (some ⟨b, o, none⟩) ms.length c) b (o + i * 2) M (.slice m.a m.b.length m.c) y6 :=
        HK5.out.keep (N := W1.heap.size) ⟨g6.os, g6.tape, g6.output, g6.size, fun k hk => g6.block k (by omega) (fun e => by have := (own_lt YO5.out e.symm).1; omega)⟩ (by omega) (by omega)
      have ys6 := YB6.out.size
      have HK6 := Lib.hid hK6
      rw [← hP6l]
      have YP6 := Lib.hid hP6
      have hP6b : P6.length ≤ 900018 := by omega
      refine ⟨hK6, ?_⟩
      clear o6 g6 hP6 hP6l
      go_simp
      refine heldTake 20 3 rfl rfl (by kernel_rfl) (by kernel_rfl) (by kernel_rfl) (fun _ _ _ h => h) hK6 (.inl ⟨by rfl, by intro w' hS; obtain ⟨s1, s2, s3⟩ := hS; go_simp; (try rfl)⟩) ?_
      simp only [List.set_cons_zero, List.set_cons_succ]
      refine wpAnyH_done (by kernel_rfl) ?_ _
      obtain ⟨d2, d3, d4⟩ := HK6.out
      have hbw6 : Below w.heap.size w y6 := HB1.out.trans (YB6.out.mono (by omega))
      have YBS := Lib.hid (show SlAt y6 y6.heap.size 1 m.a m.b.length m.c (m.b.map bv) from ((HBM.out.below hbw6 (Nat.le_refl _)).mono hbw6.size).sl)
      clear hK6 hbw6
      go_wp2_with (at_builtin; go_must (refine wpList_append_sl _ rfl (.tmp 48) (.tmp 54) 22 rfl W1.heap.size 5 i0 (.int .u8 0) 1 1 Try.underlying22 hi hz0 hz1 hz2 rfl (by decide) (.slice a6 P6.length c6) P6.length (P6.map bv) rfl YO6.out y6.heap.size m.a m.b.length m.c (m.b.map bv) rfl YBS.out (one_bv _) (by unfold maxLen; omega) (by omega) ys6 ?_); intro a8 c8 y8 o8 g8 _)
      obtain ⟨P8, hP8⟩ : ∃ P8, P8 = P6 ++ m.b := ⟨_, rfl⟩
      have hP8l : P8.length = P6.length + m.b.length := by rw [hP8]; simp
      have YB8 := Lib.hid (show Below W1.heap.size W1 y8 from YB6.out.grown g8 ys6 (fun k hk => (own_lt YO6.out hk).1))
      have YO8 := Lib.hid (show y8.ownsRow W1.heap.size 5 1 (.slice a8 P8.length c8) P8.length (P8.map bv) from by rw [hP8l, hP8, List.map_append]; exact o8)
      have YP8 := Lib.hid (show P8 = P2 ++ putItems ((ms.take (i + 1)).map MItem.it) by
        rw [hP8, YP6.out, YP4.out, HLL.out, putItems_take_succ HM.out, HMT.out]
        simp [putText, List.append_assoc])
      rw [← hP8l]
      clear o8 g8 hP8 hP8l d2 d3 d4
      go_roundw
      case rel => exact ⟨i + 1, a8, c8, P8, rfl, by go_num, hil, YP8.out, YO8.out, YB8.out⟩
      case measure => simp [intOf]; omega
    · have tk : decide ((i : Int) < (ms.length : Int)) = false := by simpa using hil
      have hie : i = ms.length := by omega
      subst hie
      have HLF := Lib.hid (show L = putNum B ++ putNum T ++ putNum ms.length ++ putItems (ms.map MItem.it) by rw [HLL.out, HP2.out, List.take_length])
      have hlf := HLEN.out
      rw [← HLF.out] at hlf
      clear hil
      go_wp2
      go_ret
      rw [← HLF.out]
      obtain ⟨a5, c5, e5, h5⟩ := bsAt_of_owns HO.out (by omega)
      injection e5 with e6 _ e8
      subst e6; subst e8
      exact ⟨av, cv, rfl, h5, HB1.out.trans (HB.out.mono (by omega))⟩
end Go.Proofs.Ytogcnfhmcpkdcaa
