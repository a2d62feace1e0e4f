/-
  Contract of entry.Put.
-/
import Derived.Test.YtogcnfhmcpkdcaaEntry1
import Derived.Test.YtogcnfhmcpkdcaaPenB
namespace Go.Proofs.Ytogcnfhmcpkdcaa
open Go.RowKit
set_option linter.unusedVariables false
set_option linter.unusedSimpArgs false

/-- an entry of natural numbers -/
def mkE (K S : Nat) (tx : List UInt8) (A Y P : Nat) : PEntry := ⟨K, S, tx, A, Y, P⟩
def putE (K S : Nat) (tx : List UInt8) (A Y P : Nat) : List UInt8 := putNum K ++ putNum S ++ tx ++ putNum A ++ putNum Y ++ putNum P

theorem putE_len {K S : Nat} {tx : List UInt8} {A Y P : Nat} (hK : K ≤ 3) (hS : S ≤ 63) (ht : tx.length = 32) (hA : A ≤ 4611686018427387904) (hY : Y ≤ 63) (hP : P ≤ 1099511627776) : (putE K S tx A Y P).length ≤ 77 := by
  have h1 := putNum_le9 (show K < 18446744073709551616 by omega)
  have h2 := putNum_le9 (show S < 18446744073709551616 by omega)
  have h3 := putNum_le9 (show A < 18446744073709551616 by omega)
  have h4 := putNum_le9 (show Y < 18446744073709551616 by omega)
  have h5 := putNum_le9 (show P < 18446744073709551616 by omega)
  simp [putE]
  omega

theorem range_id {W : World} {g : Nat} {T : TypeId} {x : PEntry} (hx : x.tx.length = 32) (h : W.heap[g]? = some (.cells (eagg x) T (0, 0))) : W.rangeAt g 2 (x.tx.map bv) := by
  intro j v hj
  rw [cell_of_row _ _ _ _ _ _ h, eagg, List.getElem?_toArray, Nat.add_comm]
  simp only [ecells, List.getElem?_cons_succ]
  rw [List.getElem?_append_left ((List.getElem?_eq_some_iff.1 hj).1)]
  exact hj

set_option maxRecDepth 100000 in
set_option maxHeartbeats 4000000 in
theorem entryPut_no (x : PEntry) (hx : x.tx.length = 32) (hr : rightE x = false) (w : World) :
    Calls Try.prog 60 #[.agg (eagg x)] w fun e w' => e = .returned (.tuple #[.slice none 0 0, .bool false]) ∧ Below w.heap.size w w' := by
  have HSZ := Lib.hid (eagg_size x hx)
  have HR := Lib.hid hr
  clear hr
  go_enter Try.func60, Try.ntmps60
  go_wp2_with (first
    | (refine wpList_box_abs rfl 68 _ rfl (eagg x) rfl ?_; intro W0 hrow0 hb0 hs0; have HROW := Lib.hid hrow0; have HB0 := Lib.hid hb0; clear hrow0 hb0)
    | (refine wpList_load_is rfl 68 _ rfl w.heap.size rfl 68 (eagg x) _ HROW.out Try.underlying68 rfl (by rw [HSZ.out]; exact infoEntry) ?_))
  refine (entryRight x hx _).mono ?_
  rintro e w1 ⟨rfl, hb1⟩
  have HB1 := Lib.hid (HB0.out.trans (hb1.mono (by omega)))
  clear hb1
  rw [HR.out]
  go_wp2
  go_ret2
  exact ⟨rfl, HB1.out⟩

set_option maxRecDepth 100000 in
set_option maxHeartbeats 4000000 in
theorem entryPut_yes (K S : Nat) (tx : List UInt8) (A Y P : Nat) (hr : rightE (mkE K S tx A Y P) = true) (hK : K ≤ 3) (hS : S ≤ 63) (ht : tx.length = 32) (hA : A ≤ 4611686018427387904) (hY : Y ≤ 63) (hP : P ≤ 1099511627776) (w : World) :
    Calls Try.prog 60 #[.agg (eagg (mkE K S tx A Y P))] w fun e w' => ∃ a c, e = .returned (.tuple #[.slice a (putE K S tx A Y P).length c, .bool true]) ∧ BsAt w' w'.heap.size a (putE K S tx A Y P).length c (putE K S tx A Y P) ∧ Below w.heap.size w w' := by
  obtain ⟨x, hxx⟩ : ∃ x, x = mkE K S tx A Y P := ⟨_, rfl⟩
  have hx : x.tx.length = 32 := by rw [hxx]; exact ht
  have hk : x.k = (K : Int) := by rw [hxx]; rfl
  have hs : x.s = (S : Int) := by rw [hxx]; rfl
  have htx : x.tx = tx := by rw [hxx]; rfl
  have ha : x.a = A := by rw [hxx]; rfl
  have hy : x.y = (Y : Int) := by rw [hxx]; rfl
  have hp : x.p = (P : Int) := by rw [hxx]; rfl
  have hpl := putE_len hK hS ht hA hY hP
  rw [← hxx] at hr ⊢
  have HSZ := Lib.hid (eagg_size x hx)
  have HR := Lib.hid hr
  have HK := Lib.hid hk
  have HS := Lib.hid hs
  have HTX := Lib.hid htx
  have HA := Lib.hid ha
  have HY := Lib.hid hy
  have HP := Lib.hid hp
  have HLEN := Lib.hid ht
  clear hr hk hs htx ha hy hp hxx ht
  go_enter Try.func60, Try.ntmps60
  go_wp2_with (first
    | (refine wpList_box_abs rfl 68 _ rfl (eagg x) rfl ?_; intro W0 hrow0 hb0 hs0; have HROW := Lib.hid hrow0; have HB0 := Lib.hid hb0; clear hrow0 hb0)
    | (refine wpList_load_is rfl 68 _ rfl w.heap.size rfl 68 (eagg x) _ HROW.out Try.underlying68 rfl (by rw [HSZ.out]; exact infoEntry) ?_))
  refine (entryRight x hx _).mono ?_
  rintro e w1 ⟨rfl, hb1⟩
  have hs1 := hb1.size
  have hs1' : w.heap.size < w1.heap.size := by omega
  have hrow1 := (hb1.block w.heap.size (by omega)).trans HROW.out
  have HR1 := Lib.hid hrow1
  have HB1 := Lib.hid (HB0.out.trans (hb1.mono (by omega)))
  have HPN := Lib.hid (PenAt.new 36 w1)
  obtain ⟨c0, -, -, -, -⟩ := erow_cells hx hrow1
  rw [HK.out] at c0
  clear hb1 hrow1
  rw [HR.out]
  go_wp2_with fail
  refine (penNumB w1.heap.size K (by omega) (.slice none 0 0) [] (by first | (simp; done) | omega) _ HPN.out).mono ?_
  rintro e w2 ⟨rfl, v2, l2, hl2, hn2, hp2, hb2⟩
  have hbb2 : Below w1.heap.size w1 w2 := ((Below.refl _ w1).alloc (Nat.le_refl _) _).trans hb2
  simp only [List.length_nil] at hn2
  have hrow2 := (hbb2.block w.heap.size hs1').trans HR1.out
  have HBB2 := Lib.hid hbb2
  have HL2 := Lib.hid hl2
  have HP2 := Lib.hid hp2
  obtain ⟨-, c2, -, -, -⟩ := erow_cells hx hrow2
  rw [HS.out] at c2
  clear hb2 hbb2 hl2 hp2 hrow2 c0
  go_wp2_with fail
  refine (penNumB w1.heap.size S (by omega) v2 l2 (by first | (simp; done) | omega) _ HP2.out).mono ?_
  rintro e w3 ⟨rfl, v3, l3, hl3, hn3, hp3, hb3⟩
  have hbb3 : Below w1.heap.size w1 w3 := HBB2.out.trans hb3
  have hrow3 := (hbb3.block w.heap.size hs1').trans HR1.out
  have HBB3 := Lib.hid hbb3
  have HL3 := Lib.hid hl3
  have HP3 := Lib.hid hp3
  have HRG := Lib.hid (range_id hx hrow3)
  clear hb3 hbb3 hl3 hp3 hrow3 c2
  go_wp2_with (refine wpList_load_mid rfl 56 (.tmp 16) rfl w.heap.size 2 rfl (x.tx.map bv) _ HRG.out Try.underlying56 rfl (by rw [List.length_map, hx]; exact infoId) ?_)
  rw [HTX.out]
  refine (penIdB w1.heap.size v3 l3 (by omega) tx HLEN.out _ HP3.out).mono ?_
  rintro e w4 ⟨rfl, v4, l4, hl4, hn4, hp4, hb4⟩
  have hbb4 : Below w1.heap.size w1 w4 := HBB3.out.trans hb4
  have hrow4 := (hbb4.block w.heap.size hs1').trans HR1.out
  have HBB4 := Lib.hid hbb4
  have HL4 := Lib.hid hl4
  have HP4 := Lib.hid hp4
  obtain ⟨-, -, c4, -, -⟩ := erow_cells hx hrow4
  rw [HA.out] at c4
  clear hb4 hbb4 hl4 hp4 hrow4
  go_wp2_with fail
  refine (penNumB w1.heap.size A (by omega) v4 l4 (by first | (simp; done) | omega) _ HP4.out).mono ?_
  rintro e w5 ⟨rfl, v5, l5, hl5, hn5, hp5, hb5⟩
  have hbb5 : Below w1.heap.size w1 w5 := HBB4.out.trans hb5
  have hrow5 := (hbb5.block w.heap.size hs1').trans HR1.out
  have HBB5 := Lib.hid hbb5
  have HL5 := Lib.hid hl5
  have HP5 := Lib.hid hp5
  obtain ⟨-, -, -, c5, -⟩ := erow_cells hx hrow5
  rw [HY.out] at c5
  clear hb5 hbb5 hl5 hp5 hrow5 c4
  go_wp2_with fail
  refine (penNumB w1.heap.size Y (by omega) v5 l5 (by first | (simp; done) | omega) _ HP5.out).mono ?_
  rintro e w6 ⟨rfl, v6, l6, hl6, hn6, hp6, hb6⟩
  have hbb6 : Below w1.heap.size w1 w6 := HBB5.out.trans hb6
  have hrow6 := (hbb6.block w.heap.size hs1').trans HR1.out
  have HBB6 := Lib.hid hbb6
  have HL6 := Lib.hid hl6
  have HP6 := Lib.hid hp6
  obtain ⟨-, -, -, -, c6⟩ := erow_cells hx hrow6
  rw [HP.out] at c6
  clear hb6 hbb6 hl6 hp6 hrow6 c5
  go_wp2_with fail
  refine (penNumB w1.heap.size P (by omega) v6 l6 (by first | (simp; done) | omega) _ HP6.out).mono ?_
  rintro e w7 ⟨rfl, v7, l7, hl7, hn7, hp7, hb7⟩
  have hbb7 : Below w1.heap.size w1 w7 := HBB6.out.trans hb7
  have hrow7 := (hbb7.block w.heap.size hs1').trans HR1.out
  have HBB7 := Lib.hid hbb7
  have HL7 := Lib.hid hl7
  have HP7 := Lib.hid hp7
  clear hb7 hbb7 hl7 hp7 hrow7 c6
  go_wp2_with fail
  have hfin : l7 = putE K S tx A Y P := by rw [HL7.out, HL6.out, HL5.out, HL4.out, HL3.out, HL2.out]; simp [putE]
  have HF := Lib.hid hfin
  refine (penBytes w1.heap.size v7 l7 (by omega) _ HP7.out).mono ?_
  rintro e w8 ⟨a8, c8, rfl, hbs8, hb8, -⟩
  have hB : Below w.heap.size w w8 := HB1.out.trans ((HBB7.out.trans (hb8.mono HBB7.out.size)).mono (by omega))
  have HB8 := Lib.hid hB
  have HBS8 := Lib.hid hbs8
  clear hb8 hbs8 hB hfin
  go_wp2
  go_ret2
  rw [← HF.out]
  exact ⟨a8, c8, rfl, HBS8.out, HB8.out⟩
end Go.Proofs.Ytogcnfhmcpkdcaa
