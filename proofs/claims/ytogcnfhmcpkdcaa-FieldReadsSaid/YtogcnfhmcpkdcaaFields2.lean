/-
  Contract of the reference's Put of a field.
-/
import Derived.Test.YtogcnfhmcpkdcaaFields1
import Derived.Test.YtogcnfhmcpkdcaaPenB
namespace Go.Proofs.Ytogcnfhmcpkdcaa
open Go.RowKit
set_option linter.unusedVariables false
set_option linter.unusedSimpArgs false

/-- what Put hands back: a row of bytes of the call's own -/
def PutsB (w : World) (L : List UInt8) (e : Ending) (w' : World) : Prop :=
  ∃ a c, e = .returned (.slice a L.length c) ∧ w'.ownsRow w.heap.size 5 1 (.slice a L.length c) L.length (L.map bv) ∧ Below w.heap.size w w'

set_option maxRecDepth 100000 in
set_option maxHeartbeats 2000000 in
theorem refPut0 (m : MF) (hd : m.f.d.length = 32) (hn : m.f.n < 18446744073709551616) (hk : m.f.k = 0) (w : World) :
    Calls Try.prog 44 #[.agg m.agg] w (PutsB w (putNum m.f.n)) := by
  go_enter Try.func44, Try.ntmps44
  go_wp2_with (refine wpList_box_abs rfl 58 (.tmp 0) rfl m.agg rfl ?_; intro W0 hrow0 hb0 hs0; have HROW0 := Lib.hid hrow0; have HB0 := Lib.hid hb0; obtain ⟨c0, c1, -, -, -⟩ := frow_cells hrow0; rw [hk] at c0; clear hrow0 hb0 hk)
  refine (refNum m.f.n hn _).mono ?_
  rintro e w1 ⟨a, c, rfl, hown, hb1⟩
  have HO := Lib.hid (World.ownsRow.mono hown (show w.heap.size ≤ W0.heap.size by omega))
  have HB1 := Lib.hid (HB0.out.trans (hb1.mono (by omega)))
  clear hown hb1
  go_wp2
  go_ret
  exact ⟨a, c, rfl, HO.out, HB1.out⟩

set_option maxRecDepth 100000 in
set_option maxHeartbeats 4000000 in
theorem refPut1 (m : MF) (hd : m.f.d.length = 32) (hk : m.f.k = 1) (ht : m.f.t.length ≤ 1000000) (w : World) (hbs : BsAt w w.heap.size m.a m.f.t.length m.c m.f.t) :
    Calls Try.prog 44 #[.agg m.agg] w (PutsB w (putText m.f.t)) := by
  obtain ⟨i0, hi, hz0, hz1, hz2⟩ := info_parts infoU8
  have HBS := Lib.hid hbs
  have hp := putNum_le9 (show m.f.t.length < 18446744073709551616 by omega)
  have hu : IntKind.u64.wrap (m.f.t.length : Int) = m.f.t.length := by rw [IntKind.wrap_u64]; omega
  have hu' : IntKind.u64.wrap (m.f.t.length : Int) = m.f.t.length := hu
  have HU := Lib.hid hu
  clear hbs hu hu'
  go_enter Try.func44, Try.ntmps44
  go_wp2_with (refine wpList_box_abs rfl 58 (.tmp 0) rfl m.agg rfl ?_; intro W0 hrow0 hb0 hs0; have HROW0 := Lib.hid hrow0; have HB0 := Lib.hid hb0; obtain ⟨c0, -, c2, -, -⟩ := frow_cells hrow0; rw [hk] at c0; have C2 := Lib.hid c2; clear hrow0 hb0 hk c2)
  refine wp_region_any (by kernel_rfl) ?_
  refine wpAny_of_held (S := fun w' => w'.cell? ⟨w.heap.size, 2, none⟩ = some (.slice m.a m.f.t.length m.c)) _ _ _ _ ?_
  have hS0 : W0.drew.cell? ⟨w.heap.size, 2, none⟩ = some (.slice m.a m.f.t.length m.c) := C2.out
  refine heldTake 0 14 rfl rfl (by kernel_rfl) (by kernel_rfl) (by kernel_rfl) (fun _ _ _ h => h) hS0 (.inl ⟨by rfl, by intro w' hS; (try dsimp only at hS); go_simp; (try rfl)⟩) ?_
  simp only [List.set_cons_zero, List.set_cons_succ]
  refine heldTake 1 15 rfl rfl (by kernel_rfl) (by kernel_rfl) (by kernel_rfl) (fun _ _ _ h => h) hS0 (.inl ⟨by rfl, by intro w' hS; (try dsimp only at hS); go_simp; (try rfl)⟩) ?_
  simp only [List.set_cons_zero, List.set_cons_succ]
  refine heldTake 2 16 rfl rfl (by kernel_rfl) (by kernel_rfl) (by kernel_rfl) (fun _ _ _ h => h) hS0 (.inl ⟨by rfl, by intro w' hS; (try dsimp only at hS); go_simp; (try rfl)⟩) ?_
  simp only [List.set_cons_zero, List.set_cons_succ]
  refine heldTake 3 17 rfl rfl (by kernel_rfl) (by kernel_rfl) (by kernel_rfl) (fun _ _ _ h => h) hS0 (.inl ⟨by rfl, by intro w' hS; (try dsimp only at hS); go_simp; (try rfl)⟩) ?_
  simp only [List.set_cons_zero, List.set_cons_succ]
  refine heldTake 5 19 rfl rfl (by kernel_rfl) (by kernel_rfl) (by kernel_rfl) (fun _ _ _ h => h) hS0 (.inl ⟨by rfl, by intro w' hS; (try dsimp only at hS); go_simp; (try rfl)⟩) ?_
  simp only [List.set_cons_zero, List.set_cons_succ]
  refine heldTake 6 20 rfl rfl (by kernel_rfl) (by kernel_rfl) (by kernel_rfl) (fun _ _ _ h => h) hS0 (.inl ⟨by rfl, by intro w' hS; (try dsimp only at hS); go_simp; (try rfl)⟩) ?_
  simp only [List.set_cons_zero, List.set_cons_succ]
  refine heldOne 4 (by kernel_rfl) rfl (by rfl) ?_
  go_simp
  rw [HU.out]
  refine (refNum m.f.t.length (by omega) _).mono ?_
  rintro e w1 ⟨a, c, rfl, hown, hb1⟩
  have hs1 : W0.heap.size ≤ w1.heap.size := hb1.size
  have hS1 : w1.cell? ⟨w.heap.size, 2, none⟩ = some (.slice m.a m.f.t.length m.c) := by
    rw [hb1.cell (p := ⟨w.heap.size, 2, none⟩) (by show w.heap.size < W0.heap.size; omega)]; exact hS0
  have hbw1 : Below w.heap.size w w1 := HB0.out.trans ((Below.refl _ W0).drew.trans (hb1.mono (by show w.heap.size ≤ W0.heap.size; omega)))
  have hbs1 : BsAt w1 w1.heap.size m.a m.f.t.length m.c m.f.t := (HBS.out.below hbw1 (Nat.le_refl _)).mono (by omega)
  refine ⟨hS1, ?_⟩
  refine heldOne 7 (by kernel_rfl) rfl (by rfl) ?_
  refine wp_append_sl _ (.tmp 18) (.tmp 20) 22 rfl w.heap.size 5 i0 (.int .u8 0) 1 1 Try.underlying22 hi hz0 hz1 hz2 rfl (by decide) (.slice a (putNum m.f.t.length).length c) (putNum m.f.t.length).length ((putNum m.f.t.length).map bv) rfl (World.ownsRow.mono hown (by show w.heap.size ≤ W0.heap.size; omega)) _ m.a m.f.t.length m.c (m.f.t.map bv) rfl hbs1.sl (bvs_oneCell _) (by unfold maxLen; omega) (by omega) (by omega) ?_
  intro a3 c3 w3 hown3 hgrow3 hat3
  have hq : (Value.slice a (putNum m.f.t.length).length c).ownBlock ≠ some w.heap.size := fun e => by
    have h9 := (own_lt hown e).1
    have h10 : W0.drew.heap.size = W0.heap.size := rfl
    omega
  have hS3 : w3.cell? ⟨w.heap.size, 2, none⟩ = some (.slice m.a m.f.t.length m.c) := by
    rw [hgrow3.cell_far ⟨w.heap.size, 2, none⟩ (by show w.heap.size < w1.heap.size; omega) (fun e => hq e.symm)]; exact hS1
  have hfin : Below w.heap.size w w3 := hbw1.grown hgrow3 (by omega) (fun k hk => by
    have h9 := (own_lt hown hk).1
    have h10 : W0.drew.heap.size = W0.heap.size := rfl
    omega)
  have hrow3 : w3.ownsRow w.heap.size 5 1 (.slice a3 (putText m.f.t).length c3) (putText m.f.t).length ((putText m.f.t).map bv) := by
    have e1 : (putText m.f.t).length = (putNum m.f.t.length).length + m.f.t.length := by simp [putText]
    rw [e1, putText, List.map_append]; exact hown3
  have HF := Lib.hid hfin
  have HR := Lib.hid hrow3
  have e1 : (putNum m.f.t.length).length + m.f.t.length = (putText m.f.t).length := by simp [putText]
  rw [e1]
  refine ⟨hS3, ?_⟩
  refine heldTake 8 2 rfl rfl (by kernel_rfl) (by kernel_rfl) (by kernel_rfl) (fun _ _ _ h => h) hS3 (.inl ⟨by rfl, by intro w' hS; (try dsimp only at hS); go_simp; (try rfl)⟩) ?_
  simp only [List.set_cons_zero, List.set_cons_succ]
  refine wpAnyH_done (by kernel_rfl) ?_ _
  clear hown hb1 hS1 hbw1 hbs1 hown3 hgrow3 hat3 hq hS3 hfin hrow3 hS0 e1
  go_wp2
  go_ret
  exact ⟨a3, c3, rfl, HR.out, HF.out⟩

set_option maxRecDepth 100000 in
set_option maxHeartbeats 4000000 in
theorem refPut2 (m : MF) (hd : m.f.d.length = 32) (hk : m.f.k = 2) (w : World) :
    Calls Try.prog 44 #[.agg m.agg] w (PutsB w m.f.d) := by
  obtain ⟨i0, hi, hz0, hz1, hz2⟩ := info_parts infoU8
  have HD := Lib.hid hd
  go_enter Try.func44, Try.ntmps44
  go_wp2_with (refine wpList_box_abs rfl 58 (.tmp 0) rfl m.agg rfl ?_; intro W0 hrow0 hb0 hs0; have HROW := Lib.hid hrow0; have HB0 := Lib.hid hb0; obtain ⟨c0, -, -, -, -⟩ := frow_cells hrow0; rw [hk] at c0; clear hrow0 hb0)
  go_loopw [3, 4] (fun ov iv wr => ∃ (j : Nat) (a : Option Addr) (c : Nat), j ≤ 32 ∧ iv = .int .i64 j ∧ ov = .slice a j c ∧ wr.ownsRow (w.heap.size + 1) 5 1 (.slice a j c) j ((m.f.d.take j).map bv) ∧ Below (w.heap.size + 1) W0 wr)
    (fun _ iv _ => 32 - (intOf iv).toNat)
  case atStart => exact ⟨0, none, 0, by omega, rfl, rfl, ⟨rfl, .inl ⟨rfl, rfl⟩⟩, Below.refl _ _⟩
  case round =>
    obtain ⟨j, a, c, hj, rfl, rfl, hown, hbel⟩ := hrel
    have hsz := hbel.size
    clear c0
    by_cases hlt : j < 32
    · obtain ⟨x, hx⟩ : ∃ x, x = m.f.d.getD j 0 := ⟨_, rfl⟩
      have hcx : wr.cell? ⟨w.heap.size, 3 + j, none⟩ = some (.int .u8 (x.toNat : Int)) := by
        rw [hbel.cell (p := ⟨w.heap.size, 3 + j, none⟩) (by show w.heap.size < _; omega)]
        obtain ⟨-, -, -, hr, -⟩ := frow_cells HROW.out
        exact hr j _ (by rw [getD_map_bv m.f.d j (by omega), hx])
      have hsn := take_snocB m.f.d j (by omega)
      rw [← hx] at hsn
      have HSN := Lib.hid hsn
      have HB := Lib.hid hbel
      have HO := Lib.hid (hown.alloc (.cells #[.int .u8 (x.toNat : Int)] 5))
      have hk0 : (0 : Int) ≤ (j : Int) := by omega
      have hk1 : (j : Int) < 32 := by omega
      clear hx hsn hown hbel
      go_wp2_with (at_builtin; refine wpList_append_sl _ rfl _ _ 22 rfl (w.heap.size + 1) 5 i0 (.int .u8 0) 1 1 Try.underlying22 hi hz0 hz1 hz2 rfl (by decide) _ _ _ rfl HO.out (wr.heap.size + 1) (some ⟨wr.heap.size, 0, none⟩) 1 1 [.int .u8 (x.toNat : Int)] rfl (slAt_one wr _ _) (one_oneCell rfl) ?c1 ?c2 ?c3 ?_)
      case c1 => unfold maxLen; omega
      case c2 => omega
      case c3 => simp; omega
      intro a' c' w6 hown6 hgrow6 hat6
      have hfin : Below (w.heap.size + 1) W0 w6 := (HB.out.alloc (by omega) _).grown hgrow6 (by simp; omega) (fun k hk => (own_lt HO.out hk).1)
      have hrow : w6.ownsRow (w.heap.size + 1) 5 1 (.slice a' (j + 1) c') (j + 1) ((m.f.d.take (j + 1)).map bv) := by
        rw [HSN.out]
        simpa using hown6
      have HF := Lib.hid hfin
      have HR := Lib.hid hrow
      clear hfin hrow hown6 hgrow6 hat6
      go_wp2
      go_roundw
      case rel => exact ⟨j + 1, a', c', by omega, by go_num, rfl, HR.out, HF.out⟩
      case measure => simp [intOf]; omega
    · have hj32 : j = 32 := by omega
      subst hj32
      rw [List.take_of_length_le (by omega)] at hown
      have HO := Lib.hid hown
      have HB := Lib.hid hbel
      clear hown hbel
      go_wp2
      go_ret
      have h := World.ownsRow.mono HO.out (show w.heap.size ≤ w.heap.size + 1 by omega)
      exact ⟨a, c, by rw [HD.out]; rfl, by rw [HD.out]; exact h, HB0.out.trans (HB.out.mono (by omega))⟩

theorem refPutAny (m : MF) (hd : m.f.d.length = 32) (hn : m.f.n < 18446744073709551616) (ht : m.f.t.length ≤ 60) (w : World) (hbs : BsAt w w.heap.size m.a m.f.t.length m.c m.f.t) :
    Calls Try.prog 44 #[.agg m.kind.agg] w (PutsB w m.f.put) := by
  rcases m.f.kd_cases with h | h | h
  · have e : m.f.put = putNum m.f.n := by unfold PF.put; rw [if_pos h]
    rw [e]
    exact refPut0 m.kind hd hn h w
  · have e : m.f.put = putText m.f.t := by unfold PF.put; rw [if_neg (by omega), if_pos h]
    rw [e]
    exact refPut1 m.kind hd h (by show m.f.t.length ≤ _; omega) w hbs
  · have e : m.f.put = m.f.d := by unfold PF.put; rw [if_neg (by omega), if_neg (by omega)]
    rw [e]
    exact refPut2 m.kind hd h w
end Go.Proofs.Ytogcnfhmcpkdcaa
