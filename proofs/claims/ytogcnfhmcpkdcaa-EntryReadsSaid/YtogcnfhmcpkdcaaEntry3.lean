/-
  Contracts of entry.look, of the closure of entry.Read, and of entry.Read.
-/
import Derived.Test.YtogcnfhmcpkdcaaEntry2
import Derived.Test.YtogcnfhmcpkdcaaRangeLaw
namespace Go.Proofs.Ytogcnfhmcpkdcaa
open Go.RowKit
set_option linter.unusedVariables false
set_option linter.unusedSimpArgs false

/-- an entry's fields -/
def getE (l : List UInt8) : Res PEntry := (getNum 3 l).bind fun k r1 => (getNum 63 r1).bind fun s r2 => (getTake 32 r2).bind fun d r3 => (getNum 4611686018427387904 r3).bind fun a r4 => (getNum 63 r4).bind fun y r5 => (getNum 1099511627776 r5).bind fun p r6 => .ok ⟨(k : Int), (s : Int), d, a, (y : Int), (p : Int)⟩ r6

theorem sane_E (l : List UInt8) : (getE l).sane :=
  Res.sane_bind (sane_num _ _) fun _ _ => Res.sane_bind (sane_num _ _) fun _ _ => Res.sane_bind (sane_take _ _) fun _ _ => Res.sane_bind (sane_num _ _) fun _ _ => Res.sane_bind (sane_num _ _) fun _ _ => Res.sane_bind (sane_num _ _) fun _ _ => sane_ok _ _

theorem zero_entry (w : World) : (zeroValue 68).run Try.prog w = .ok (.agg (eagg zeroE)) w := by kernel_rfl

theorem ecells_ks (k s : Int) : ((ecells zeroE).set 0 (.int .i64 k)).set 1 (.int .i64 s) = ecells ⟨k, s, zeroTx, 0, 0, 0⟩ := rfl
theorem ecells_tx (k s : Int) (d : List UInt8) (hd : d.length = 32) : (ecells ⟨k, s, zeroTx, 0, 0, 0⟩).take 2 ++ d.map bv ++ (ecells ⟨k, s, zeroTx, 0, 0, 0⟩).drop (2 + (d.map bv).length) = ecells ⟨k, s, d, 0, 0, 0⟩ := by
  rw [List.length_map, hd]
  rfl
theorem ecells_a (k s : Int) (d : List UInt8) (a : Nat) (hd : d.length = 32) : (ecells ⟨k, s, d, 0, 0, 0⟩).set 34 (.int .u64 a) = ecells ⟨k, s, d, a, 0, 0⟩ := by
  simp only [ecells, List.set_cons_succ]
  rw [List.set_append_right _ _ (by simp [hd])]
  simp [hd]
theorem cell34 (k s : Int) (d : List UInt8) (a : Nat) (hd : d.length = 32) : (ecells ⟨k, s, d, a, 0, 0⟩)[34]? = some (.int .u64 a) := (ecells_at _ hd).2.2.1
theorem cell35 (k s : Int) (d : List UInt8) (a : Nat) (hd : d.length = 32) : (ecells ⟨k, s, d, a, 0, 0⟩)[35]? = some (.int .i64 0) := (ecells_at _ hd).2.2.2.1
theorem cell36 (k s : Int) (d : List UInt8) (a : Nat) (hd : d.length = 32) : (ecells ⟨k, s, d, a, 0, 0⟩)[36]? = some (.int .i64 0) := (ecells_at _ hd).2.2.2.2
theorem ecells_yp (k s : Int) (d : List UInt8) (a : Nat) (y p : Int) (hd : d.length = 32) : ((ecells ⟨k, s, d, a, 0, 0⟩).set 35 (.int .i64 y)).set 36 (.int .i64 p) = ecells ⟨k, s, d, a, y, p⟩ := by
  simp only [ecells, List.set_cons_succ]
  rw [List.set_append_right _ _ (by simp [hd]), List.set_append_right _ _ (by simp [hd])]
  simp [hd]

theorem Lies.but {q g : Nat} {w w' : World} {cs : List Value} (h : Lies w g cs) (hb : But q w w') (hg : g ≠ q) : Lies w' g cs := h.block (hb.block g h.lt hg) hb.size

set_option maxRecDepth 100000 in
set_option maxHeartbeats 8000000 in
theorem entryLook (q : Nat) (l : List UInt8) (w : World) (h : EyeAt w q l) :
    Calls Try.prog 116 #[.pointer (some ⟨q, 0, none⟩)] w fun e w' => EyeRead q (getE l) w w' e fun v => e = .returned (.agg (eagg v)) := by
  obtain ⟨N, hN⟩ : ∃ N, N = getE l := ⟨_, rfl⟩
  rw [← hN]
  have HN0 := Lib.hid hN
  have hq := h.1
  clear hN
  go_enter Try.func116, Try.ntmps116
  go_wp2_with (refine wpList_alloc_abs rfl 68 rfl (eagg zeroE) zero_entry ?_; intro W0 hrow0 hb0 hs0; have HBT0 := Lib.hid (But.ofBelow hq hb0); have HEY0 := Lib.hid (h.below hb0); have hli0 : Lies W0 w.heap.size (ecells zeroE) := Lies.of_row hrow0; have HLI0 := Lib.hid hli0; clear hli0; clear hrow0 hb0)
  clear h
  have hgq : w.heap.size ≠ q := by omega
  refine (eyeNum q 3 _ _ HEY0.out).mono ?_
  rintro e w1 ⟨hb1, hr1⟩
  cases hg1 : getNum 3 l with
  | err x =>
    rw [hg1] at hr1
    obtain rfl : e = broke x := hr1
    have hN : N = .err x := by rw [HN0.out, getE, hg1]; rfl
    subst hN
    have HB := Lib.hid (HBT0.out.trans hb1)
    clear hg1 hb1
    go_wp2
    exact ⟨rfl, HB.out, rfl⟩
  | ok k r1 =>
    rw [hg1] at hr1
    obtain ⟨rfl, heye1⟩ := hr1
    have hv1 := getNum_most hg1
    have hN : N = (getNum 63 r1).bind fun s r2 => (getTake 32 r2).bind fun d r3 => (getNum 4611686018427387904 r3).bind fun a r4 => (getNum 63 r4).bind fun y r5 => (getNum 1099511627776 r5).bind fun p r6 => .ok ⟨(k : Int), (s : Int), d, a, (y : Int), (p : Int)⟩ r6 := by rw [HN0.out, getE, hg1]; rfl
    have HN1 := Lib.hid hN
    have HBT1 := Lib.hid (HBT0.out.trans hb1)
    have HLI1 := Lib.hid (HLI0.out.but hb1 hgq)
    have HEY1 := Lib.hid heye1
    clear hg1 hN hb1 heye1
    go_wp2_with fail
    refine (eyeNum q 63 _ _ HEY1.out).mono ?_
    rintro e w2 ⟨hb2, hr2⟩
    cases hg2 : getNum 63 r1 with
    | err x =>
      rw [hg2] at hr2
      obtain rfl : e = broke x := hr2
      have hN : N = .err x := by rw [HN1.out, hg2]; rfl
      subst hN
      have HB := Lib.hid (HBT1.out.trans hb2)
      clear hg2 hb2
      go_wp2
      exact ⟨rfl, HB.out, rfl⟩
    | ok s r2 =>
      rw [hg2] at hr2
      obtain ⟨rfl, heye2⟩ := hr2
      have hv2 := getNum_most hg2
      have hN : N = (getTake 32 r2).bind fun d r3 => (getNum 4611686018427387904 r3).bind fun a r4 => (getNum 63 r4).bind fun y r5 => (getNum 1099511627776 r5).bind fun p r6 => .ok ⟨(k : Int), (s : Int), d, a, (y : Int), (p : Int)⟩ r6 := by rw [HN1.out, hg2]; rfl
      have HN2 := Lib.hid hN
      have HBT2 := Lib.hid (HBT1.out.trans hb2)
      have HLI2 := Lib.hid (HLI1.out.but hb2 hgq)
      have HEY2 := Lib.hid heye2
      clear hg2 hN hb2 heye2
      have ca0 : w2.cell? ⟨w.heap.size, 0, none⟩ = some (.int .i64 0) := HLI2.out.cell (by first | rfl | (simp [ecells]; done) | exact cell34 _ _ _ _ hv3 | exact cell35 _ _ _ _ hv3 | exact cell36 _ _ _ _ hv3)
      have fa0 : w2.frozen? ⟨w.heap.size, 0, none⟩ = false := HLI2.out.frozen (by first | (simp [ecells, zeroE, zeroTx]; done) | (simp [ecells, hv3]; done))
      have ca1 : w2.cell? ⟨w.heap.size, 1, none⟩ = some (.int .i64 0) := HLI2.out.cell (by first | rfl | (simp [ecells]; done) | exact cell34 _ _ _ _ hv3 | exact cell35 _ _ _ _ hv3 | exact cell36 _ _ _ _ hv3)
      have fa1 : w2.frozen? ⟨w.heap.size, 1, none⟩ = false := HLI2.out.frozen (by first | (simp [ecells, zeroE, zeroTx]; done) | (simp [ecells, hv3]; done))
      go_wp2_with fail
      obtain ⟨W3, hW3⟩ : ∃ W3, W3 = (w2.setCell ⟨w.heap.size, 0, none⟩ (.int .i64 k)).setCell ⟨w.heap.size, 1, none⟩ (.int .i64 s) := ⟨_, rfl⟩
      rw [← hW3]
      have hbe : ∀ B, B ≤ w.heap.size → Below B w2 W3 := fun B hB => by rw [hW3]; exact ((Below.refl _ _).setCell hB _).setCell hB _
      have hli : Lies W3 w.heap.size (ecells ⟨k, s, zeroTx, 0, 0, 0⟩) := by rw [hW3, ← ecells_ks]; exact (HLI2.out.setCell (by simp [ecells]) _).setCell (by simp [ecells]) _
      have hey : EyeAt W3 q r2 := HEY2.out.keep (hbe _ (by omega))
      have HBT3' := Lib.hid (HBT2.out.andBelow hq (hbe _ (Nat.le_refl _)))
      have HLI3' := Lib.hid hli
      have HEY3' := Lib.hid hey
      clear hW3 hbe hli hey ca0 fa0 ca1 fa1
      have HBT2 := HBT3'
      have HLI2 := HLI3'
      have HEY2 := HEY3'
      refine (eyeId q r2 _ HEY2.out).mono ?_
      rintro e w3 ⟨hb3, hr3⟩
      cases hg3 : getTake 32 r2 with
      | err x =>
        rw [hg3] at hr3
        obtain rfl : e = broke x := hr3
        have hN : N = .err x := by rw [HN2.out, hg3]; rfl
        subst hN
        have HB := Lib.hid (HBT2.out.trans hb3)
        clear hg3 hb3
        go_wp2
        exact ⟨rfl, HB.out, rfl⟩
      | ok d r3 =>
        rw [hg3] at hr3
        obtain ⟨rfl, heye3⟩ := hr3
        have hv3 := (take_put hg3).2
        have hN : N = (getNum 4611686018427387904 r3).bind fun a r4 => (getNum 63 r4).bind fun y r5 => (getNum 1099511627776 r5).bind fun p r6 => .ok ⟨(k : Int), (s : Int), d, a, (y : Int), (p : Int)⟩ r6 := by rw [HN2.out, hg3]; rfl
        have HN3 := Lib.hid hN
        have HBT3 := Lib.hid (HBT2.out.trans hb3)
        have HLI3 := Lib.hid (HLI2.out.but hb3 hgq)
        have HEY3 := Lib.hid heye3
        clear hg3 hN hb3 heye3
        have hth : w3.there w.heap.size 2 (d.map bv).toArray.size := fun j hj => by have := HLI3.out.free (2 + j) (by simp at hj; simp [ecells, zeroTx]; omega); rwa [Nat.zero_add] at this
        have HTH := Lib.hid hth
        have hdl : (d.map bv).toArray.size = 32 := by simp [hv3]
        have HDL := Lib.hid hdl
        clear hth hdl
        go_wp2_with (refine wpList_store_mid rfl 56 (.tmp 13) (.tmp 12) rfl w.heap.size 2 (d.map bv).toArray rfl rfl HTH.out (by rw [HDL.out]; exact infoId) (bvs_one _) ?_)
        obtain ⟨W4, hW4⟩ : ∃ W4, W4 = w3.setCells w.heap.size 2 (d.map bv) := ⟨_, rfl⟩
        first | rw [← hW4] | (change Calls _ _ _ (w3.setCells w.heap.size 2 (d.map bv)) _; rw [← hW4])
        have hbe : ∀ B, B ≤ w.heap.size → Below B w3 W4 := fun B hB => by rw [hW4]; exact setCells_below _ _ _ hB
        have hli : Lies W4 w.heap.size (ecells ⟨k, s, d, 0, 0, 0⟩) := by rw [hW4, ← ecells_tx k s d hv3]; exact HLI3.out.setCells (by simp [ecells, zeroTx, hv3])
        have hey : EyeAt W4 q r3 := HEY3.out.keep (hbe _ (by omega))
        have HBT4' := Lib.hid (HBT3.out.andBelow hq (hbe _ (Nat.le_refl _)))
        have HLI4' := Lib.hid hli
        have HEY4' := Lib.hid hey
        clear hW4 hbe hli hey
        have HBT3 := HBT4'
        have HLI3 := HLI4'
        have HEY3 := HEY4'
        refine (eyeNum q 4611686018427387904 _ _ HEY3.out).mono ?_
        rintro e w4 ⟨hb4, hr4⟩
        cases hg4 : getNum 4611686018427387904 r3 with
        | err x =>
          rw [hg4] at hr4
          obtain rfl : e = broke x := hr4
          have hN : N = .err x := by rw [HN3.out, hg4]; rfl
          subst hN
          have HB := Lib.hid (HBT3.out.trans hb4)
          clear hg4 hb4
          go_wp2
          exact ⟨rfl, HB.out, rfl⟩
        | ok a r4 =>
          rw [hg4] at hr4
          obtain ⟨rfl, heye4⟩ := hr4
          have hv4 := getNum_most hg4
          have hN : N = (getNum 63 r4).bind fun y r5 => (getNum 1099511627776 r5).bind fun p r6 => .ok ⟨(k : Int), (s : Int), d, a, (y : Int), (p : Int)⟩ r6 := by rw [HN3.out, hg4]; rfl
          have HN4 := Lib.hid hN
          have HBT4 := Lib.hid (HBT3.out.trans hb4)
          have HLI4 := Lib.hid (HLI3.out.but hb4 hgq)
          have HEY4 := Lib.hid heye4
          clear hg4 hN hb4 heye4
          have cb34 : w4.cell? ⟨w.heap.size, 34, none⟩ = some (.int .u64 0) := HLI4.out.cell (by first | rfl | (simp [ecells]; done) | exact cell34 _ _ _ _ hv3 | exact cell35 _ _ _ _ hv3 | exact cell36 _ _ _ _ hv3)
          have fb34 : w4.frozen? ⟨w.heap.size, 34, none⟩ = false := HLI4.out.frozen (by first | (simp [ecells, zeroE, zeroTx]; done) | (simp [ecells, hv3]; done))
          go_wp2_with fail
          obtain ⟨W5, hW5⟩ : ∃ W5, W5 = w4.setCell ⟨w.heap.size, 34, none⟩ (.int .u64 a) := ⟨_, rfl⟩
          rw [← hW5]
          have hbe : ∀ B, B ≤ w.heap.size → Below B w4 W5 := fun B hB => by rw [hW5]; exact (Below.refl _ _).setCell hB _
          have hli : Lies W5 w.heap.size (ecells ⟨k, s, d, a, 0, 0⟩) := by rw [hW5, ← ecells_a _ _ _ _ hv3]; exact HLI4.out.setCell (by simp [ecells, hv3]) _
          have hey : EyeAt W5 q r4 := HEY4.out.keep (hbe _ (by omega))
          have HBT5' := Lib.hid (HBT4.out.andBelow hq (hbe _ (Nat.le_refl _)))
          have HLI5' := Lib.hid hli
          have HEY5' := Lib.hid hey
          clear hW5 hbe hli hey cb34 fb34
          have HBT4 := HBT5'
          have HLI4 := HLI5'
          have HEY4 := HEY5'
          refine (eyeNum q 63 _ _ HEY4.out).mono ?_
          rintro e w5 ⟨hb5, hr5⟩
          cases hg5 : getNum 63 r4 with
          | err x =>
            rw [hg5] at hr5
            obtain rfl : e = broke x := hr5
            have hN : N = .err x := by rw [HN4.out, hg5]; rfl
            subst hN
            have HB := Lib.hid (HBT4.out.trans hb5)
            clear hg5 hb5
            go_wp2
            exact ⟨rfl, HB.out, rfl⟩
          | ok y r5 =>
            rw [hg5] at hr5
            obtain ⟨rfl, heye5⟩ := hr5
            have hv5 := getNum_most hg5
            have hN : N = (getNum 1099511627776 r5).bind fun p r6 => .ok ⟨(k : Int), (s : Int), d, a, (y : Int), (p : Int)⟩ r6 := by rw [HN4.out, hg5]; rfl
            have HN5 := Lib.hid hN
            have HBT5 := Lib.hid (HBT4.out.trans hb5)
            have HLI5 := Lib.hid (HLI4.out.but hb5 hgq)
            have HEY5 := Lib.hid heye5
            clear hg5 hN hb5 heye5
            go_wp2_with fail
            refine (eyeNum q 1099511627776 _ _ HEY5.out).mono ?_
            rintro e w6 ⟨hb6, hr6⟩
            cases hg6 : getNum 1099511627776 r5 with
            | err x =>
              rw [hg6] at hr6
              obtain rfl : e = broke x := hr6
              have hN : N = .err x := by rw [HN5.out, hg6]; rfl
              subst hN
              have HB := Lib.hid (HBT5.out.trans hb6)
              clear hg6 hb6
              go_wp2
              exact ⟨rfl, HB.out, rfl⟩
            | ok p r6 =>
              rw [hg6] at hr6
              obtain ⟨rfl, heye6⟩ := hr6
              have hv6 := getNum_most hg6
              have hN : N = .ok ⟨(k : Int), (s : Int), d, a, (y : Int), (p : Int)⟩ r6 := by rw [HN5.out, hg6]; rfl
              have HN6 := Lib.hid hN
              have HBT6 := Lib.hid (HBT5.out.trans hb6)
              have HLI6 := Lib.hid (HLI5.out.but hb6 hgq)
              have HEY6 := Lib.hid heye6
              clear hg6 hN hb6 heye6
              have hN := HN6.out
              subst hN
              have cd35 : w6.cell? ⟨w.heap.size, 35, none⟩ = some (.int .i64 0) := HLI6.out.cell (by first | rfl | (simp [ecells]; done) | exact cell34 _ _ _ _ hv3 | exact cell35 _ _ _ _ hv3 | exact cell36 _ _ _ _ hv3)
              have fd35 : w6.frozen? ⟨w.heap.size, 35, none⟩ = false := HLI6.out.frozen (by first | (simp [ecells, zeroE, zeroTx]; done) | (simp [ecells, hv3]; done))
              have cd36 : w6.cell? ⟨w.heap.size, 36, none⟩ = some (.int .i64 0) := HLI6.out.cell (by first | rfl | (simp [ecells]; done) | exact cell34 _ _ _ _ hv3 | exact cell35 _ _ _ _ hv3 | exact cell36 _ _ _ _ hv3)
              have fd36 : w6.frozen? ⟨w.heap.size, 36, none⟩ = false := HLI6.out.frozen (by first | (simp [ecells, zeroE, zeroTx]; done) | (simp [ecells, hv3]; done))
              obtain ⟨E, hE⟩ : ∃ E : PEntry, E = ⟨(k : Int), (s : Int), d, a, (y : Int), (p : Int)⟩ := ⟨_, rfl⟩
              have hEl : E.tx.length = 32 := by rw [hE]; exact hv3
              have hli7 : Lies ((w6.setCell ⟨w.heap.size, 35, none⟩ (.int .i64 y)).setCell ⟨w.heap.size, 36, none⟩ (.int .i64 p)) w.heap.size (ecells E) := by
                rw [hE, ← ecells_yp _ _ _ _ _ _ hv3]
                exact (HLI6.out.setCell (by simp [ecells, hv3]) _).setCell (by simp [ecells, hv3]) _
              have hbe7 : ∀ B, B ≤ w.heap.size → Below B w6 ((w6.setCell ⟨w.heap.size, 35, none⟩ (.int .i64 y)).setCell ⟨w.heap.size, 36, none⟩ (.int .i64 p)) := fun B hB => ((Below.refl _ _).setCell hB _).setCell hB _
              have HLI7 := Lib.hid hli7
              have HBE7 := Lib.hid hbe7
              have HEL := Lib.hid (ecells_len E hEl)
              have HES := Lib.hid (show (ecells E).toArray.size = 37 by rw [List.size_toArray, ecells_len E hEl])
              have HEE := Lib.hid hE
              have hth7 : ((w6.setCell ⟨w.heap.size, 35, none⟩ (.int .i64 y)).setCell ⟨w.heap.size, 36, none⟩ (.int .i64 p)).there w.heap.size 0 (ecells E).toArray.size := hli7.free
              have HTH7 := Lib.hid hth7
              clear hli7 hbe7 hE hth7
              go_wp2_with (first
                | (refine wpList_load_mid rfl 68 (.tmp 2) rfl w.heap.size 0 rfl (ecells E) _ HLI7.out.at_ Try.underlying68 rfl (by rw [HEL.out]; exact infoEntry) ?_)
                | (refine wpList_store_mid rfl 68 (.tmp 2) (.tmp 25) rfl w.heap.size 0 (ecells E).toArray rfl rfl HTH7.out (by rw [HES.out]; exact infoEntry) (eagg_one E) ?_))
              have hli8 := HLI7.out.setCells (i := 0) (vs := ecells E) (by omega)
              simp only [List.take_zero, List.nil_append, Nat.zero_add, List.drop_length, List.append_nil] at hli8
              refine bodyPost_ret (results_lies rfl _ _ w.heap.size (ecells E) _ rfl hli8 Try.underlying68 rfl (by rw [HEL.out]; exact infoEntry)) rfl ?_
              have hbe8 : ∀ B, B ≤ w.heap.size → Below B w6 (((w6.setCell ⟨w.heap.size, 35, none⟩ (.int .i64 y)).setCell ⟨w.heap.size, 36, none⟩ (.int .i64 p)).setCells w.heap.size 0 (ecells E)) := fun B hB => (HBE7.out B hB).trans (setCells_below _ _ _ hB)
              exact ⟨HBT6.out.andBelow hq (hbe8 _ (Nat.le_refl _)), by rw [HEE.out]; rfl, HEY6.out.keep (hbe8 _ (by omega))⟩
end Go.Proofs.Ytogcnfhmcpkdcaa
