/-
  Contract of the reference's Num: a number's bytes.
  Contract of Line.Put.
  Contract of the reference's Put of a line.
-/
import Derived.Test.YtogcnfhmcpkdcaaGreatFieldM
import Derived.Test.YtogcnfhmcpkdcaaGreatPenLaw
import Derived.Test.YtogcnfhmcpkdcaaGreatSlMem
import Derived.Test.YtogcnfhmcpkdcaaGreatLine1
import Derived.Test.YtogcnfhmcpkdcaaGreatPenZ
import Derived.Test.YtogcnfhmcpkdcaaGreatLineM8
import Derived.Test.YtogcnfhmcpkdcaaGreatLineM6
namespace Go.Proofs.YtogcnfhmcpkdcaaGreat
open Go.RowKit
set_option linter.unusedVariables false
end Go.Proofs.YtogcnfhmcpkdcaaGreat
namespace Go.Proofs.YtogcnfhmcpkdcaaGreat
open Go.RowKit
set_option linter.unusedVariables false
set_option linter.unusedSimpArgs false
theorem putItems_append (a b : List PItem) : putItems (a ++ b) = putItems a ++ putItems b := by
 induction a with
 | nil => rfl
 | cons x l ih => simp [putItems, ih, List.append_assoc]
theorem putItems_take (l : List PItem) (k : Nat) : (putItems (l.take k)).length ≤ (putItems l).length := by
 have h := putItems_append (l.take k) (l.drop k);rw [List.take_append_drop] at h;rw [h, List.length_append]; omega
theorem putItems_take_succ {ms : List MItem} {k : Nat} {m : MItem} (hm : ms[k]? = some m) : putItems ((ms.take (k + 1)).map MItem.it) = putItems ((ms.take k).map MItem.it) ++ putNum m.t.toNat ++ putText m.b := by
 have hl : k < ms.length := (List.getElem?_eq_some_iff.1 hm).1;have e : ms[k] = m := by simpa [List.getElem?_eq_getElem hl] using hm
 rw [List.take_succ_eq_append_getElem hl, e, List.map_append, putItems_append];simp [putItems, List.append_assoc]
theorem putItems_text {ms : List MItem} {k : Nat} {m : MItem} (hm : ms[k]? = some m) : m.b.length ≤ (putItems (ms.map MItem.it)).length := by
 have hl : k < ms.length := (List.getElem?_eq_some_iff.1 hm).1;have h := putItems_take (ms.map MItem.it) (k + 1);rw [← List.map_take, putItems_take_succ hm] at h;simp [putText] at h;omega
set_option maxRecDepth 100000 in
set_option maxHeartbeats 1000000 in
theorem linePutO (base p : Nat) (x : PLine) (hg : x.Good) (la : Option Addr) (lc : Nat) (ms : List MItem) (w : World) (h : LnAt w base p x la lc ms) (hlen : x.put.length ≤ 900000) :
  Calls Tryz.prog 37 #[.pointer (some ⟨p, 0, none⟩)] w fun e w' => ∃ a c, e = .returned (.slice a x.put.length c) ∧ BsAt w' w'.heap.size a x.put.length c x.put ∧ Below w.heap.size w w' ∧ w'.ownsRow w.heap.size 5 1 (.slice a x.put.length c) x.put.length (x.put.map bv) := by
 obtain ⟨c0, c1, c2, -⟩ := h.cells;obtain ⟨B, hB⟩ : ∃ B : Nat, x.base = B := ⟨x.base.toNat, by have := hg.b0; omega⟩
 obtain ⟨T, hT⟩ : ∃ T : Nat, x.term = T := ⟨x.term.toNat, by have := hg.t0; omega⟩
 have hB1 : B ≤ 1099511627776 := by have := hg.b1; omega
 have hT1 : T ≤ 1099511627776 := by have := hg.t1; omega
 have hN : ms.length ≤ 4096 := by have := hg.n1; have := h.len; omega
 have hpl := h.lt;have hput : x.put = putNum B ++ putNum T ++ putNum ms.length ++ putItems (ms.map MItem.it) := by
  rw [PLine.put, hB, hT, h.its, h.len]; rfl
 have hL0 : (putNum B ++ putNum T ++ putNum ms.length ++ putItems (ms.map MItem.it)).length ≤ 900000 := by rw [← hput]; exact hlen
 rw [hput];have H := Hh h;have HG := Hh hg;have hits := h.sl;have HIT := Hh hits;have HRI := Hh (show ∀ m ∈ ms, 0 ≤ m.t ∧ m.t ≤ 1099511627776 from fun m hm => by
  have h9 := hg.its m.it (by rw [← h.its]; exact List.mem_map_of_mem hm);have := (rightI_iff _).1 h9;exact ⟨this.1, this.2.1⟩)
 rw [hB] at c0;rw [hT] at c1;have C1 := Hh c1;have C2 := Hh c2;have HPN := Hh (PenAt.new 86 w);have HLEN := Hh hL0;clear h hg hB hT hput hlen hits c1 c2 hL0;go_enter Tryz.func37, Tryz.ntmps37
 go_wp2_with fail;refine (penNumB w.heap.size B (by omega) (.slice none 0 0) [] (by simp) _ HPN.out).mono ?_;rintro e w2 ⟨rfl, v2, l2, hl2, hn2, hp2, hb2⟩;have hbb2 : Below w.heap.size w w2 := ((Below.refl _ w).alloc (Nat.le_refl _) _).trans hb2;simp only [List.length_nil] at hn2;have c1 := (hbb2.cell (p := ⟨p, 1, none⟩) hpl).trans C1.out;have HB2 := Hh hbb2;have HL2 := Hh hl2;have HP2 := Hh hp2;clear hb2 hbb2 hl2 hp2 c0;go_wp2_with fail;refine (penNumB w.heap.size T (by omega) v2 l2 (by omega) _ HP2.out).mono ?_;rintro e w3 ⟨rfl, v3, l3, hl3, hn3, hp3, hb3⟩;have hbb3 := HB2.out.trans hb3;have c2 := (hbb3.cell (p := ⟨p, 2, none⟩) hpl).trans C2.out;have HB3 := Hh hbb3;have HL3 := Hh hl3;have HP3 := Hh hp3;clear hb3 hbb3 hl3 hp3 c1;go_wp2_with fail;refine (penNumB w.heap.size ms.length (by omega) v3 l3 (by omega) _ HP3.out).mono ?_;rintro e w4 ⟨rfl, v4, l4, hl4, hn4, hp4, hb4⟩;have hbb4 := HB3.out.trans hb4;have c2 := (hbb4.cell (p := ⟨p, 2, none⟩) hpl).trans C2.out;have HB4 := Hh hbb4;have HL4 := Hh (show l4 = putNum B ++ putNum T ++ putNum ms.length by rw [hl4, HL3.out, HL2.out]; simp);have HP4 := Hh hp4;clear hb4 hbb4 hl4 hp4 c2 hn2 hn3 hn4;obtain ⟨d0, d1, d2⟩ : True ∧ True ∧ w4.cell? ⟨p, 2, none⟩ = some (.slice la ms.length lc) := ⟨trivial, trivial, (HB4.out.cell (p := ⟨p, 2, none⟩) hpl).trans C2.out⟩
 clear d0 d1;go_wp2_with fail;have hl4 : l4.length ≤ 900000 := by have := HLEN.out; rw [← HL4.out, List.length_append] at this; omega
 go_loopw [30] (fun iv wr => ∃ (i : Nat) (v : Value) (L : List UInt8), iv = .int .i64 i ∧ i ≤ ms.length ∧ L = l4 ++ putItems ((ms.take i).map MItem.it) ∧ PenAt 5 wr w.heap.size v L ∧ Below w.heap.size w wr) (fun iv _ => ms.length - (intOf iv).toNat)
 case atStart => exact ⟨0, v4, l4, rfl, by omega, by simp [putItems], HP4.out, HB4.out⟩
 case round =>
  obtain ⟨i, v, L, rfl, hi, hL, hp, hbel⟩ := hrel;have HLL := Hh hL;have HP := Hh hp;have HB := Hh hbel;have hwr := hbel.size;clear hL hp hbel d2;by_cases hil : i < ms.length
  ·obtain ⟨m, hm⟩ : ∃ m, ms[i]? = some m := ⟨_, List.getElem?_eq_getElem hil⟩
   have hmm := List.mem_of_getElem? hm;have HM := Hh hm;obtain ⟨b, o, rfl, hb, k0, k1⟩ := HIT.out.cell hm;have hbs := HIT.out.bs m hmm;have hmn : m.n = m.b.length := hbs.hlen.symm;rw [hmn] at k1;obtain ⟨M, hM⟩ : ∃ M : Nat, m.t = M := ⟨m.t.toNat, by have := HRI.out m hmm; omega⟩
   have hM1 : M ≤ 1099511627776 := by have := HRI.out m hmm; omega
   rw [hM] at k0;have c0 : wr.cell? ⟨b, o + i * 2, none⟩ = some (.int .i64 M) := (HB.out.cell (p := ⟨b, o + i * 2, none⟩) hb).trans k0;have c1 : wr.cell? ⟨b, o + i * 2 + 1, none⟩ = some (.slice m.a m.b.length m.c) := (HB.out.cell (p := ⟨b, o + (i * 2 + 1), none⟩) hb).trans k1;have HBM := Hh (show BsAt w w.heap.size m.a m.b.length m.c m.b from by rw [← hmn]; exact hbs);have HMT := Hh (show m.t.toNat = M by omega);have tk : decide ((i : Int) < (ms.length : Int)) = true := by simpa using hil
   have hi0 : (0 : Int) ≤ (i : Int) := by omega
   have hi1 : (i : Int) < (ms.length : Int) := by omega
   have hLl : L.length ≤ 900000 := by
    have h9 := HLEN.out;rw [← HL4.out, List.length_append] at h9;have h8 := putItems_take (ms.map MItem.it) i;rw [HLL.out, List.length_append, List.map_take];omega
   have hbl : m.b.length ≤ 900000 := by
    have h9 := HLEN.out;rw [List.length_append] at h9;have h8 := putItems_text hm;omega
   obtain ⟨A, hA⟩ : ∃ A, A = wr.alloc (.cells #[.int .i64 M, .slice m.a m.b.length m.c] 40) := ⟨_, rfl⟩
   have hbA : Below wr.heap.size wr A := by rw [hA]; exact (Below.refl _ _).alloc (Nat.le_refl _) _
   have hrA : A.heap[wr.heap.size]? = some (.cells #[.int .i64 M, .slice m.a m.b.length m.c] 40 (0, 0)) := by rw [hA]; exact heap_alloc_new _ _
   have HA := Hh hA;have HRA := Hh hrA;have HBA := Hh (HB.out.trans (hbA.mono hwr));have HPA := Hh (HP.out.below hbA);have hsA : A.heap.size = wr.heap.size + 1 := by rw [hA]; simp
   have hqr : w.heap.size < wr.heap.size := HP.out.lt;clear k0 k1 hm hmm hbs hmn hM hA hbA hrA;go_wp2_with fail;rw [← HA.out];refine (penNum w.heap.size M (by omega) v L (by omega) _ HPA.out).mono ?_;rintro e w5 ⟨rfl, v5, hp5, ht5⟩;obtain ⟨l5, hl5⟩ : ∃ l5, l5 = L ++ putNum M := ⟨_, rfl⟩
   have hn5 : l5.length ≤ 900009 := by rw [hl5, List.length_append]; have := putNum_le9 (show M < 18446744073709551616 by omega); omega
   rw [← hl5] at hp5;have hr5 := (ht5.block wr.heap.size (by omega) (by omega) (fun e => by have := (own_lt HP.out.own e).2; omega)).trans HRA.out;have c5 : w5.cell? ⟨wr.heap.size, 1, none⟩ = some (.slice m.a m.b.length m.c) := cell_of_row w5 wr.heap.size 1 _ _ _ hr5;have HB5 := Hh (HBA.out.trans (ht5.below HPA.out (Nat.le_refl _)));have HL5 := Hh hl5;have HP5 := Hh hp5;have HBM5 := Hh (HBM.out.below HB5.out (Nat.le_refl _));clear hl5 hp5 ht5 hr5 c0 c1;go_wp2_with fail;refine (penTextB w.heap.size v5 l5 (by omega) m.b m.a m.b.length m.c (by omega) _ HBM5.out HP5.out).mono ?_;rintro e w6 ⟨rfl, v6, l6, hl6, hn6, hp6, hb6⟩;have HB6 := Hh (HB5.out.trans hb6);have HL6 := Hh (show l6 = l4 ++ putItems ((ms.take (i + 1)).map MItem.it) by
    rw [hl6, HL5.out, HLL.out, putItems_take_succ HM.out, HMT.out];simp [List.append_assoc])
   have HP6 := Hh hp6;clear hl6 hn6 hp6 hb6 c5;go_wp2;go_roundw
   case rel => exact ⟨i + 1, v6, l6, by go_num, hil, HL6.out, HP6.out, HB6.out⟩
   case measure => simp [intOf]; omega
  ·have tk : decide ((i : Int) < (ms.length : Int)) = false := by simpa using hil
   have hie : i = ms.length := by omega
   subst hie;have hLf : L = putNum B ++ putNum T ++ putNum ms.length ++ putItems (ms.map MItem.it) := by rw [HLL.out, HL4.out, List.take_length]
   have HLF := Hh hLf;rw [← hLf] at HLEN;have hlf := HLEN.out;go_wp2_with fail;refine (penBytes w.heap.size v L (by omega) _ HP.out).mono ?_;rintro e w9 ⟨a9, c9, rfl, hbs9, hb9, ho9⟩;have HBS9 := Hh hbs9;have HO9 := Hh (World.ownsRow.mono ho9 hwr);have HB9 := Hh (HB.out.trans (hb9.mono hwr));clear hbs9 hb9 ho9 hLf;go_wp2;go_ret;rw [← HLF.out];exact ⟨a9, c9, rfl, HBS9.out, HB9.out, HO9.out⟩
end Go.Proofs.YtogcnfhmcpkdcaaGreat
namespace Go.Proofs.YtogcnfhmcpkdcaaGreat
open Go.RowKit
set_option linter.unusedVariables false
set_option linter.unusedSimpArgs false
end Go.Proofs.YtogcnfhmcpkdcaaGreat
