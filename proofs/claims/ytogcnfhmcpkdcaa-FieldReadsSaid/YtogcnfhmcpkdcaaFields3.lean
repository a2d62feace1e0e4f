/-
  Contract of the reading of fields as they were written (many.read).
-/
import Derived.Test.YtogcnfhmcpkdcaaFields2
import Derived.Test.YtogcnfhmcpkdcaaReads
import Derived.Test.YtogcnfhmcpkdcaaEntryLaw
import Derived.Test.YtogcnfhmcpkdcaaWideOps3
namespace Go.Proofs.Ytogcnfhmcpkdcaa
open Go.RowKit
set_option linter.unusedVariables false
set_option linter.unusedSimpArgs false

/-- the cells of the field at a place of a row of fields -/
theorem cellsF_len : ∀ (ms : List MF), (∀ m ∈ ms, m.f.d.length = 32) → (cellsF ms).length = ms.length * 35
  | [], _ => rfl
  | m :: r, h => by
    have h1 := cellsF_len r (fun x hx => h x (by simp [hx]))
    have h2 := h m (by simp)
    simp only [cellsF, List.length_append, h1, List.length_cons]
    simp [MF.cells, h2]
    omega

theorem cellsF_at : ∀ (ms : List MF), (∀ m ∈ ms, m.f.d.length = 32) → ∀ (i : Nat) (m : MF), ms[i]? = some m → ∀ j, j < 35 → (cellsF ms)[i * 35 + j]? = m.cells[j]?
  | [], _, i, m, h, j, hj => by simp at h
  | x :: r, hd, 0, m, h, j, hj => by
    simp at h
    subst h
    have h2 := hd x (by simp)
    simp only [cellsF]
    rw [List.getElem?_append_left (by simp [MF.cells, h2]; omega)]
    simp
  | x :: r, hd, i + 1, m, h, j, hj => by
    have h2 := hd x (by simp)
    have hl : x.cells.length = 35 := by simp [MF.cells, h2]
    have := cellsF_at r (fun y hy => hd y (by simp [hy])) i m (by simpa using h) j hj
    simp only [cellsF]
    rw [List.getElem?_append_right (by omega), hl, show (i + 1) * 35 + j - 35 = i * 35 + j by omega]
    exact this

/-- the slice reads as these fields, all of it below B -/
structure FieldsAt (w : World) (B : Nat) (a : Option Addr) (c : Nat) (ms : List MF) : Prop where
  sl : SlAt w B 35 a ms.length c (cellsF ms)
  is : ∀ m ∈ ms, m.Is w B

theorem FieldsAt.d32 {w : World} {B : Nat} {a : Option Addr} {c : Nat} {ms : List MF} (h : FieldsAt w B a c ms) : ∀ m ∈ ms, m.f.d.length = 32 := fun m hm => (h.is m hm).d32
theorem FieldsAt.below {w w' : World} {B B' : Nat} {a : Option Addr} {c : Nat} {ms : List MF} (h : FieldsAt w B a c ms) (hb : Below B' w w') (hB : B ≤ B') : FieldsAt w' B a c ms :=
  ⟨h.sl.below hb hB, fun m hm => (h.is m hm).below hb hB⟩

/-- the field at a place: its cells, and those that are read by themselves -/
theorem FieldsAt.at_ {w : World} {B : Nat} {a : Option Addr} {c : Nat} {ms : List MF} (h : FieldsAt w B a c ms) {i : Nat} {m : MF} (hi : ms[i]? = some m) :
    ∃ b o, a = some ⟨b, o, none⟩ ∧ b < B ∧ w.rangeAt b (o + i * 35) m.cells ∧ w.cell? ⟨b, o + i * 35 + 2, none⟩ = some (.slice m.a m.f.t.length m.c) := by
  have hl : i < ms.length := (List.getElem?_eq_some_iff.1 hi).1
  have hm : m ∈ ms := List.mem_of_getElem? hi
  have hlen := cellsF_len ms h.d32
  obtain ⟨b, o, e, hb, hc⟩ := h.sl.hat (by omega)
  have hml : m.cells.length = 35 := by have := h.d32 m hm; simp [MF.cells, this]
  have hr : w.rangeAt b (o + i * 35) m.cells := by
    intro j v hj
    have hj' : j < 35 := by rw [← hml]; exact (List.getElem?_eq_some_iff.1 hj).1
    rw [Nat.add_assoc, hc _ (by omega), cellsF_at ms h.d32 i m hi j hj']
    exact hj
  exact ⟨b, o, e, hb, hr, hr 2 _ rfl⟩

theorem run_eql_id (d e : List UInt8) (hd : d.length = 32) (he : e.length = 32) (w : World) : (binOp .eql 56 (.agg (d.map bv).toArray) (.agg (e.map bv).toArray)).run Try.prog w = .ok (.bool (d == e)) w :=
  run_eql_bytes (P := Try.prog) w 56 5 32 Try.underlying56 Try.underlying5 sizeU8 d e hd he

theorem infoBool : (Try.prog.info? 4).map (·.size) = some 1 := by kernel_rfl

/-- the loop of the reading, at a round's head -/
structure ManyAt (q : Nat) (ms : List MF) (j : Nat) (w wr : World) : Prop where
  le : j ≤ ms.length
  bt : But q w wr
  eye : EyeAt wr q (putF ((ms.drop j).map MF.f))

theorem ManyAt.turn {q p : Nat} {ms : List MF} {j : Nat} {w wr w1 : World} {la : Option Addr} {lc : Nat} (h : ManyAt q ms j w wr) (hj : j < ms.length) (hp : w.heap[p]? = some (.cells #[.slice la ms.length lc, .bool true] 78 (0, 0))) (hpq : p ≠ q)
    (hb : But q wr w1) (he : EyeAt w1 q (putF ((ms.drop (j + 1)).map MF.f))) : ManyAt q ms (j + 1) w (w1.setCell ⟨p, 1, none⟩ (.bool true)) := by
  have hpl : p < w.heap.size := (Array.getElem?_eq_some_iff.1 hp).1
  have hb2 := h.bt.trans hb
  have hrow := (hb2.block p hpl hpq).trans hp
  have hset : (w1.setCell ⟨p, 1, none⟩ (.bool true)).heap[p]? = w1.heap[p]? := by
    have h9 := heap_setCell_same w1 p 1 _ _ (.bool true) hrow
    rw [h9, hrow]; rfl
  have hc1 : w1.cell? ⟨p, 1, none⟩ = some (.bool true) := by rw [cell_of_row _ _ _ _ _ _ hrow]; rfl
  refine ⟨by omega, hb2.trans ⟨rfl, rfl, rfl, by simp, fun k hk hq => ?_, fun o e ho => World.cell?_setCell_other _ _ _ _ (by intro e2; injection e2 with e3; exact hpq e3)⟩, he.setOther hpq hc1 (fun c e => by cases e) _⟩
  by_cases hkp : k = p
  · subst hkp; exact hset
  · exact Below.heap_setCell _ _ _ k hkp

set_option maxRecDepth 100000 in
set_option maxHeartbeats 8000000 in
theorem manyRead (q p : Nat) (ms : List MF) (la : Option Addr) (lc : Nat) (w : World) (hq : EyeAt w q (putF (ms.map MF.f))) (hpq : p ≠ q) (B : Nat) (hB : B ≤ q) (hn : ms.length ≤ 12) (hfs : FieldsAt w B la lc ms) (h60 : ∀ m ∈ ms, m.f.t.length ≤ 60)
    (hp : w.heap[p]? = some (.cells #[.slice la ms.length lc, .bool true] 78 (0, 0))) :
    Calls Try.prog 47 #[.pointer (some ⟨p, 0, none⟩), .pointer (some ⟨q, 0, none⟩)] w fun e w' => e = .returned (.tuple #[]) ∧ But q w w' ∧ EyeAt w' q [] := by
  have HP := Lib.hid hp
  have HF := Lib.hid hfs
  have H60 := Lib.hid h60
  have HI0 := Lib.hid (show ManyAt q ms 0 w w from ⟨by omega, But.refl _ _, by simpa using hq⟩)
  have hpl : p < w.heap.size := (Array.getElem?_eq_some_iff.1 hp).1
  have hql := hq.1
  have HZ := Lib.hid (MF.agg_size (m := ⟨⟨0, 0, [], zeros32⟩, none, 0⟩) (by simp [zeros32]))
  clear hp hfs h60 hq
  go_enter Try.func47, Try.ntmps47
  go_wp2_with fail
  go_loopw [4] (fun iv wr => ∃ j : Nat, iv = .int .i64 j ∧ ManyAt q ms j w wr) (fun iv _ => ms.length - (intOf iv).toNat)
  case atStart => exact ⟨0, rfl, HI0.out⟩
  case round =>
    obtain ⟨j, rfl, hI⟩ := hrel
    have HI := Lib.hid hI
    have hle := hI.le
    have hprow := (hI.bt.block p hpl hpq).trans HP.out
    have hsz := hI.bt.size
    have c0 : wr.cell? ⟨p, 0, none⟩ = some (.slice la ms.length lc) := by rw [cell_of_row _ _ _ _ _ _ hprow]; rfl
    have c1 : wr.cell? ⟨p, 1, none⟩ = some (.bool true) := by rw [cell_of_row _ _ _ _ _ _ hprow]; rfl
    have HPR := Lib.hid hprow
    clear hI hprow
    by_cases hlt : j < ms.length
    · obtain ⟨m, hm⟩ : ∃ m, ms[j]? = some m := ⟨_, List.getElem?_eq_getElem hlt⟩
      have hmem : m ∈ ms := List.mem_of_getElem? hm
      obtain ⟨b, o, hla, hb, hr, -⟩ := HF.out.at_ hm
      subst hla
      have hbt := HI.out.bt
      have hrr : wr.rangeAt b (o + j * 35) m.cells := fun i v hv => (hbt.cells.1 b _ (by omega) (by omega)).trans (hr i v hv)
      have hdr : ms.drop j = m :: ms.drop (j + 1) := by
        rw [List.drop_eq_getElem_cons hlt]; congr 1; simpa [List.getElem?_eq_getElem hlt] using hm
      have hey := HI.out.eye
      rw [hdr, List.map_cons, putF] at hey
      have hd := (HF.out.is m hmem).d32
      have hn64 := (HF.out.is m hmem).n64
      have ht60 := H60.out m hmem
      have HEY := Lib.hid hey
      have HRR := Lib.hid hrr
      have HD := Lib.hid hd
      have HCL := Lib.hid (show m.cells.length = 35 by simp [MF.cells, hd])
      have HK := Lib.hid (MF.agg_size (m := m.kind) hd)
      have HIS := Lib.hid (HF.out.is m hmem)
      have HDR := Lib.hid hdr
      have hj0 : (0 : Int) ≤ (j : Int) := by omega
      have hj1 : (j : Int) < (ms.length : Int) := by omega
      clear hr hrr hbt hdr hey hm hd
      go_wp2_with (refine wpList_load_mid rfl 58 (.tmp 20) rfl b (o + j * 35) rfl m.cells _ HRR.out Try.underlying58 rfl (by rw [HCL.out]; exact infoField) ?_)
      refine (kindF m HD.out _).mono ?_
      rintro e w1 ⟨rfl, hb1⟩
      have hs1 := hb1.size
      have HB1 := Lib.hid hb1
      have HPR1 := Lib.hid ((hb1.block p (by omega)).trans HPR.out)
      have HEY1 := Lib.hid (HEY.out.below hb1)
      have HBT1 := Lib.hid (But.ofBelow (q := q) (by omega) hb1)
      have HIS1 := Lib.hid ((HIS.out.below (HI.out.bt.below hB hql) (Nat.le_refl _)).below (hb1.mono (show B ≤ wr.heap.size by omega)) (Nat.le_refl _))
      clear hb1 c0 c1
      rcases m.f.kd_cases with hk | hk | hk
      · have hput : m.f.put = putNum m.f.n := by unfold PF.put; rw [if_pos hk]
        have hkk : m.kind.f.k = 0 := hk
        have HKK := Lib.hid hkk
        have HPUT := Lib.hid hput
        clear hk hkk hput
        go_wp2_with (first
          | (refine wpList_alloc_abs rfl 58 rfl (MF.agg ⟨⟨0, 0, [], zeros32⟩, none, 0⟩) zero_field ?_; intro W2 hrow2 hb2 hs2; have HROW2 := Lib.hid hrow2; have HB2 := Lib.hid hb2; clear hrow2 hb2)
          | (refine wpList_store_abs rfl 58 (.tmp 5) _ rfl w1.heap.size m.kind.agg rfl rfl 58 _ HROW2.out (by rw [HK.out]; exact infoField) (by rw [HK.out, HZ.out]) (MF.agg_one _) ?_; intro W3 hrow3 hoth3 hb3 hs3; obtain ⟨d0, d1, d2, d3, -⟩ := frow_cells hrow3; rw [HKK.out] at d0; have HB3 := Lib.hid (HB2.out.trans hb3); have D1 := Lib.hid d1; clear hrow3 hoth3 hb3 d1 d2 d3))
        have hpr3 := (HB3.out.block p (by omega)).trans HPR1.out
        have c1 : W3.cell? ⟨p, 1, none⟩ = some (.bool true) := by rw [cell_of_row _ _ _ _ _ _ hpr3]; rfl
        have hey3 := HEY1.out.below HB3.out
        have hbt3 := HBT1.out.andBelow (by omega) (HB3.out.mono (by omega))
        have hS0 : W3.drew.cell? ⟨p, 1, none⟩ = some (.bool true) ∧ W3.drew.cell? ⟨w1.heap.size, 1, none⟩ = some (.int .u64 m.f.n) := ⟨c1, D1.out⟩
        have HS0 := Lib.hid hS0
        rw [HPUT.out] at hey3
        have HEY3 := Lib.hid (show EyeAt W3.drew q (putNum m.f.n ++ putF (List.map MF.f (List.drop (j + 1) ms))) from hey3.below (Below.refl _ _).drew)
        have HBT3 := Lib.hid (show But q wr W3.drew from hbt3.trans (But.ofBelow (by omega) (Below.refl _ _).drew))
        have hq3 : q < W3.heap.size := by omega
        clear hey3 hbt3 c1 hS0 d0 hpr3
        refine wp_region_any (by kernel_rfl) ?_
        refine wpAny_of_held (S := fun w' => w'.cell? ⟨p, 1, none⟩ = some (.bool true) ∧ w'.cell? ⟨w1.heap.size, 1, none⟩ = some (.int .u64 m.f.n)) _ _ _ _ ?_
        refine heldTake 0 27 rfl rfl (by kernel_rfl) (by kernel_rfl) (by kernel_rfl) (fun _ _ _ h => h) HS0.out (.inl ⟨by rfl, by intro w' hS; (try dsimp only at hS); go_simp; (try rfl)⟩) ?_
        simp only [List.set_cons_zero, List.set_cons_succ]
        refine heldTake 1 28 rfl rfl (by kernel_rfl) (by kernel_rfl) (by kernel_rfl) (fun _ _ _ h => h) HS0.out (.inl ⟨by rfl, by intro w' hS; (try dsimp only at hS); go_simp; (try rfl)⟩) ?_
        simp only [List.set_cons_zero, List.set_cons_succ]
        refine heldTake 2 29 rfl rfl (by kernel_rfl) (by kernel_rfl) (by kernel_rfl) (fun _ _ _ h => h) HS0.out (.inl ⟨by rfl, by intro w' hS; (try dsimp only at hS); go_simp; (try rfl)⟩) ?_
        simp only [List.set_cons_zero, List.set_cons_succ]
        refine heldTake 3 30 rfl rfl (by kernel_rfl) (by kernel_rfl) (by kernel_rfl) (fun _ _ _ h => h) HS0.out (.inl ⟨by rfl, by intro w' hS; (try dsimp only at hS); go_simp; (try rfl)⟩) ?_
        simp only [List.set_cons_zero, List.set_cons_succ]
        refine heldTake 4 31 rfl rfl (by kernel_rfl) (by kernel_rfl) (by kernel_rfl) (fun _ _ _ h => h) HS0.out (.inl ⟨by rfl, by intro w' hS; (try dsimp only at hS); go_simp; (try rfl)⟩) ?_
        simp only [List.set_cons_zero, List.set_cons_succ]
        refine heldTake 5 32 rfl rfl (by kernel_rfl) (by kernel_rfl) (by kernel_rfl) (fun _ _ _ h => h) HS0.out (.inl ⟨by rfl, by intro w' hS; (try dsimp only at hS); go_simp; (try rfl)⟩) ?_
        simp only [List.set_cons_zero, List.set_cons_succ]
        refine heldTake 6 33 rfl rfl (by kernel_rfl) (by kernel_rfl) (by kernel_rfl) (fun _ _ _ h => h) HS0.out (.inl ⟨by rfl, by intro w' hS; (try dsimp only at hS); go_simp; (try rfl)⟩) ?_
        simp only [List.set_cons_zero, List.set_cons_succ]
        refine heldTake 8 35 rfl rfl (by kernel_rfl) (by kernel_rfl) (by kernel_rfl) (fun _ _ _ h => h) HS0.out (.inl ⟨by rfl, by intro w' hS; (try dsimp only at hS); go_simp; (try rfl)⟩) ?_
        simp only [List.set_cons_zero, List.set_cons_succ]
        refine heldTake 9 36 rfl rfl (by kernel_rfl) (by kernel_rfl) (by kernel_rfl) (fun _ _ _ h => h) HS0.out (.inl ⟨by rfl, by intro w' hS; (try dsimp only at hS); go_simp; (try rfl)⟩) ?_
        simp only [List.set_cons_zero, List.set_cons_succ]
        refine heldOne 7 (by kernel_rfl) rfl (by rfl) ?_
        go_simp
        refine (eyeNum q 18446744073709551615 _ _ HEY3.out).mono ?_
        rintro e w4 ⟨hb4, hr4⟩
        rw [getNum_put _ _ _ hn64 (by omega)] at hr4
        obtain ⟨rfl, hey4⟩ := hr4
        have hs4 : W3.heap.size ≤ w4.heap.size := hb4.size
        have hS4 : w4.cell? ⟨p, 1, none⟩ = some (.bool true) ∧ w4.cell? ⟨w1.heap.size, 1, none⟩ = some (.int .u64 m.f.n) := by
          rw [hb4.cells.1 p _ (by show p < W3.heap.size; omega) hpq, hb4.cells.1 w1.heap.size _ (by show _ < W3.heap.size; omega) (by omega)]
          exact HS0.out
        have HS4 := Lib.hid hS4
        have hrow4 := ((HI.out.bt.trans (HBT3.out.trans hb4)).block p hpl hpq).trans HP.out
        have HF4 := Lib.hid (show w4.frozen? ⟨p, 1, none⟩ = false from frozen_of_row _ _ _ _ _ hrow4)
        have HIN := Lib.hid (HI.out.turn hlt HP.out hpq (HBT3.out.trans hb4) hey4)
        refine ⟨hS4, ?_⟩
        clear hS4 hb4 hey4 hrow4
        refine heldTake 10 37 rfl rfl (by kernel_rfl) (by kernel_rfl) (by kernel_rfl) (fun _ _ _ h => h) HS4.out (.inl ⟨by rfl, by intro w' hS; (try dsimp only at hS); go_simp; (try rfl)⟩) ?_
        simp only [List.set_cons_zero, List.set_cons_succ]
        refine heldTake 11 38 rfl rfl (by kernel_rfl) (by kernel_rfl) (by kernel_rfl) (fun _ _ _ h => h) HS4.out (.inl ⟨by rfl, by intro w' hS; (try dsimp only at hS); go_simp; (try rfl)⟩) ?_
        simp only [List.set_cons_zero, List.set_cons_succ]
        refine heldTake 12 39 rfl rfl (by kernel_rfl) (by kernel_rfl) (by kernel_rfl) (fun _ _ _ h => h) HS4.out (.inl ⟨by rfl, by intro w' hS; (try dsimp only at hS); go_simp; (try rfl)⟩) ?_
        simp only [List.set_cons_zero, List.set_cons_succ]
        refine heldTake 13 40 rfl rfl (by kernel_rfl) (by kernel_rfl) (by kernel_rfl) (fun _ _ _ h => h) HS4.out (.inl ⟨by rfl, by intro w' hS; (try dsimp only at hS); go_simp; (try rfl)⟩) ?_
        simp only [List.set_cons_zero, List.set_cons_succ]
        refine heldOne 14 (by kernel_rfl) rfl (by rfl) ?_
        have c4 := HS4.out.1
        have f4 := HF4.out
        have HS5 := Lib.hid (show (w4.setCell ⟨p, 1, none⟩ (.bool true)).cell? ⟨p, 1, none⟩ = some (.bool true) ∧ (w4.setCell ⟨p, 1, none⟩ (.bool true)).cell? ⟨w1.heap.size, 1, none⟩ = some (.int .u64 m.f.n) from ⟨World.cell?_setCell_same _ _ _ c4, (World.cell?_setCell_other _ _ _ _ (by intro e2; injection e2 with e3; omega)).trans HS4.out.2⟩)
        refine wp_store_cell 4 (.tmp 40) (.tmp 38) rfl p 1 (.bool true) _ rfl rfl rfl infoBool c4 f4 ?_
        refine ⟨HS5.out, wpAnyH_done (by kernel_rfl) ?_ _⟩
        clear c4 f4
        go_wp2
        go_roundw
        case rel => exact ⟨j + 1, by go_num, HIN.out⟩
        case measure => simp [intOf]; omega
      · have hput : m.f.put = putText m.f.t := by unfold PF.put; rw [if_neg (by omega), if_pos hk]
        have hkk : m.kind.f.k = 1 := hk
        have HKK := Lib.hid hkk
        have HPUT := Lib.hid hput
        clear hk hkk hput
        go_wp2_with (first
          | (refine wpList_alloc_abs rfl 58 rfl (MF.agg ⟨⟨0, 0, [], zeros32⟩, none, 0⟩) zero_field ?_; intro W2 hrow2 hb2 hs2; have HROW2 := Lib.hid hrow2; have HB2 := Lib.hid hb2; clear hrow2 hb2)
          | (refine wpList_store_abs rfl 58 (.tmp 5) _ rfl w1.heap.size m.kind.agg rfl rfl 58 _ HROW2.out (by rw [HK.out]; exact infoField) (by rw [HK.out, HZ.out]) (MF.agg_one _) ?_; intro W3 hrow3 hoth3 hb3 hs3; obtain ⟨d0, d1, d2, d3, -⟩ := frow_cells hrow3; rw [HKK.out] at d0; have HB3 := Lib.hid (HB2.out.trans hb3); have D1 := Lib.hid d2; clear hrow3 hoth3 hb3 d1 d2 d3))
        have hpr3 := (HB3.out.block p (by omega)).trans HPR1.out
        have c1 : W3.cell? ⟨p, 1, none⟩ = some (.bool true) := by rw [cell_of_row _ _ _ _ _ _ hpr3]; rfl
        have hey3 := HEY1.out.below HB3.out
        have hbt3 := HBT1.out.andBelow (by omega) (HB3.out.mono (by omega))
        have hS0 : W3.drew.cell? ⟨p, 1, none⟩ = some (.bool true) ∧ W3.drew.cell? ⟨w1.heap.size, 2, none⟩ = some (.slice m.a m.f.t.length m.c) := ⟨c1, D1.out⟩
        have HS0 := Lib.hid hS0
        rw [HPUT.out] at hey3
        have HEY3 := Lib.hid (show EyeAt W3.drew q (putText m.f.t ++ putF (List.map MF.f (List.drop (j + 1) ms))) from hey3.below (Below.refl _ _).drew)
        have HBT3 := Lib.hid (show But q wr W3.drew from hbt3.trans (But.ofBelow (by omega) (Below.refl _ _).drew))
        have hq3 : q < W3.heap.size := by omega
        clear hey3 hbt3 c1 hS0 d0 hpr3
        refine wp_region_any (by kernel_rfl) ?_
        refine wpAny_of_held (S := fun w' => w'.cell? ⟨p, 1, none⟩ = some (.bool true) ∧ w'.cell? ⟨w1.heap.size, 2, none⟩ = some (.slice m.a m.f.t.length m.c)) _ _ _ _ ?_
        refine heldTake 0 43 rfl rfl (by kernel_rfl) (by kernel_rfl) (by kernel_rfl) (fun _ _ _ h => h) HS0.out (.inl ⟨by rfl, by intro w' hS; (try dsimp only at hS); go_simp; (try rfl)⟩) ?_
        simp only [List.set_cons_zero, List.set_cons_succ]
        refine heldTake 1 44 rfl rfl (by kernel_rfl) (by kernel_rfl) (by kernel_rfl) (fun _ _ _ h => h) HS0.out (.inl ⟨by rfl, by intro w' hS; (try dsimp only at hS); go_simp; (try rfl)⟩) ?_
        simp only [List.set_cons_zero, List.set_cons_succ]
        refine heldTake 2 45 rfl rfl (by kernel_rfl) (by kernel_rfl) (by kernel_rfl) (fun _ _ _ h => h) HS0.out (.inl ⟨by rfl, by intro w' hS; (try dsimp only at hS); go_simp; (try rfl)⟩) ?_
        simp only [List.set_cons_zero, List.set_cons_succ]
        refine heldTake 3 46 rfl rfl (by kernel_rfl) (by kernel_rfl) (by kernel_rfl) (fun _ _ _ h => h) HS0.out (.inl ⟨by rfl, by intro w' hS; (try dsimp only at hS); go_simp; (try rfl)⟩) ?_
        simp only [List.set_cons_zero, List.set_cons_succ]
        refine heldTake 4 47 rfl rfl (by kernel_rfl) (by kernel_rfl) (by kernel_rfl) (fun _ _ _ h => h) HS0.out (.inl ⟨by rfl, by intro w' hS; (try dsimp only at hS); go_simp; (try rfl)⟩) ?_
        simp only [List.set_cons_zero, List.set_cons_succ]
        refine heldTake 5 48 rfl rfl (by kernel_rfl) (by kernel_rfl) (by kernel_rfl) (fun _ _ _ h => h) HS0.out (.inl ⟨by rfl, by intro w' hS; (try dsimp only at hS); go_simp; (try rfl)⟩) ?_
        simp only [List.set_cons_zero, List.set_cons_succ]
        refine heldTake 6 49 rfl rfl (by kernel_rfl) (by kernel_rfl) (by kernel_rfl) (fun _ _ _ h => h) HS0.out (.inl ⟨by rfl, by intro w' hS; (try dsimp only at hS); go_simp; (try rfl)⟩) ?_
        simp only [List.set_cons_zero, List.set_cons_succ]
        refine heldTake 8 51 rfl rfl (by kernel_rfl) (by kernel_rfl) (by kernel_rfl) (fun _ _ _ h => h) HS0.out (.inl ⟨by rfl, by intro w' hS; (try dsimp only at hS); go_simp; (try rfl)⟩) ?_
        simp only [List.set_cons_zero, List.set_cons_succ]
        refine heldTake 9 52 rfl rfl (by kernel_rfl) (by kernel_rfl) (by kernel_rfl) (fun _ _ _ h => h) HS0.out (.inl ⟨by rfl, by intro w' hS; (try dsimp only at hS); go_simp; (try rfl)⟩) ?_
        simp only [List.set_cons_zero, List.set_cons_succ]
        refine heldOne 7 (by kernel_rfl) rfl (by rfl) ?_
        go_simp
        refine (eyeText q 60 _ _ HEY3.out (by omega)).mono ?_
        rintro e w4 ⟨hb4, hr4⟩
        rw [getText_put _ _ _ (by omega) ht60] at hr4
        obtain ⟨⟨ta, tc, rfl, hbs4, -⟩, hey4⟩ := hr4
        have hbm4 := ((HIS1.out.bs (by omega)).below (HB3.out.mono (show B ≤ w1.heap.size by omega)) (Nat.le_refl _)).below (w' := W3.drew) (B' := B) (Below.refl _ _).drew (Nat.le_refl _)
        have HBM4 := Lib.hid ((hbm4.but HEY3.out hb4 (by show B ≤ W3.heap.size; omega)).mono (show B ≤ w4.heap.size by have := hb4.size; have : W3.drew.heap.size = W3.heap.size := rfl; omega))
        have HBS4 := Lib.hid hbs4
        clear hbs4 hbm4
        have hs4 : W3.heap.size ≤ w4.heap.size := hb4.size
        have hS4 : w4.cell? ⟨p, 1, none⟩ = some (.bool true) ∧ w4.cell? ⟨w1.heap.size, 2, none⟩ = some (.slice m.a m.f.t.length m.c) := by
          rw [hb4.cells.1 p _ (by show p < W3.heap.size; omega) hpq, hb4.cells.1 w1.heap.size _ (by show _ < W3.heap.size; omega) (by omega)]
          exact HS0.out
        have HS4 := Lib.hid hS4
        have hrow4 := ((HI.out.bt.trans (HBT3.out.trans hb4)).block p hpl hpq).trans HP.out
        have HROW4 := Lib.hid hrow4
        have HB4 := Lib.hid (HBT3.out.trans hb4)
        have HEY4 := Lib.hid hey4
        refine ⟨hS4, ?_⟩
        clear hS4 hb4 hey4 hrow4
        refine heldOne 10 (by kernel_rfl) rfl (by rfl) ?_
        go_simp
        refine (r1Bytes m.f.t m.f.t _ _ _ _ _ _ _ HBS4.out HBM4.out).mono ?_
        rintro e w5 ⟨rfl, hb5⟩
        simp only [decide_true]
        have hs5 := hb5.size
        have hS5 : w5.cell? ⟨p, 1, none⟩ = some (.bool true) ∧ w5.cell? ⟨w1.heap.size, 2, none⟩ = some (.slice m.a m.f.t.length m.c) := by
          rw [hb5.cell (p := ⟨p, 1, none⟩) (by show p < _; omega), hb5.cell (p := ⟨w1.heap.size, 2, none⟩) (by show w1.heap.size < _; omega)]
          exact HS4.out
        have HS5 := Lib.hid hS5
        have hrow5 := (hb5.block p (by omega)).trans HROW4.out
        have HF5 := Lib.hid (show w5.frozen? ⟨p, 1, none⟩ = false from frozen_of_row _ _ _ _ _ hrow5)
        have HIN := Lib.hid (HI.out.turn hlt HP.out hpq (HB4.out.andBelow (by omega) (hb5.mono (by omega))) (HEY4.out.below hb5))
        refine ⟨hS5, ?_⟩
        clear hS5 hb5 hrow5
        refine heldTake 11 54 rfl rfl (by kernel_rfl) (by kernel_rfl) (by kernel_rfl) (fun _ _ _ h => h) HS5.out (.inl ⟨by rfl, by intro w' hS; (try dsimp only at hS); go_simp; (try rfl)⟩) ?_
        simp only [List.set_cons_zero, List.set_cons_succ]
        refine heldTake 12 55 rfl rfl (by kernel_rfl) (by kernel_rfl) (by kernel_rfl) (fun _ _ _ h => h) HS5.out (.inl ⟨by rfl, by intro w' hS; (try dsimp only at hS); go_simp; (try rfl)⟩) ?_
        simp only [List.set_cons_zero, List.set_cons_succ]
        refine heldTake 13 56 rfl rfl (by kernel_rfl) (by kernel_rfl) (by kernel_rfl) (fun _ _ _ h => h) HS5.out (.inl ⟨by rfl, by intro w' hS; (try dsimp only at hS); go_simp; (try rfl)⟩) ?_
        simp only [List.set_cons_zero, List.set_cons_succ]
        refine heldOne 14 (by kernel_rfl) rfl (by rfl) ?_
        have c5 := HS5.out.1
        have f5 := HF5.out
        have HS6 := Lib.hid (show (w5.setCell ⟨p, 1, none⟩ (.bool true)).cell? ⟨p, 1, none⟩ = some (.bool true) ∧ (w5.setCell ⟨p, 1, none⟩ (.bool true)).cell? ⟨w1.heap.size, 2, none⟩ = some (.slice m.a m.f.t.length m.c) from ⟨World.cell?_setCell_same _ _ _ c5, (World.cell?_setCell_other _ _ _ _ (by intro e2; injection e2 with e3; omega)).trans HS5.out.2⟩)
        refine wp_store_cell 4 (.tmp 56) (.tmp 54) rfl p 1 (.bool true) _ rfl rfl rfl infoBool c5 f5 ?_
        refine ⟨HS6.out, wpAnyH_done (by kernel_rfl) ?_ _⟩
        clear c5 f5
        go_wp2
        go_roundw
        case rel => exact ⟨j + 1, by go_num, HIN.out⟩
        case measure => simp [intOf]; omega
      · have hput : m.f.put = m.f.d := by unfold PF.put; rw [if_neg (by omega), if_neg (by omega)]
        have hkk : m.kind.f.k = 2 := hk
        have HKK := Lib.hid hkk
        have HPUT := Lib.hid hput
        clear hk hkk hput
        go_wp2_with (first
          | (refine wpList_alloc_abs rfl 58 rfl (MF.agg ⟨⟨0, 0, [], zeros32⟩, none, 0⟩) zero_field ?_; intro W2 hrow2 hb2 hs2; have HROW2 := Lib.hid hrow2; have HB2 := Lib.hid hb2; clear hrow2 hb2)
          | (refine wpList_store_abs rfl 58 (.tmp 5) _ rfl w1.heap.size m.kind.agg rfl rfl 58 _ HROW2.out (by rw [HK.out]; exact infoField) (by rw [HK.out, HZ.out]) (MF.agg_one _) ?_; intro W3 hrow3 hoth3 hb3 hs3; obtain ⟨d0, d1, d2, d3, -⟩ := frow_cells hrow3; rw [HKK.out] at d0; have HB3 := Lib.hid (HB2.out.trans hb3); have D1 := Lib.hid d3; clear hrow3 hoth3 hb3 d1 d2 d3))
        have hpr3 := (HB3.out.block p (by omega)).trans HPR1.out
        have c1 : W3.cell? ⟨p, 1, none⟩ = some (.bool true) := by rw [cell_of_row _ _ _ _ _ _ hpr3]; rfl
        have hey3 := HEY1.out.below HB3.out
        have hbt3 := HBT1.out.andBelow (by omega) (HB3.out.mono (by omega))
        have hS0 : W3.drew.cell? ⟨p, 1, none⟩ = some (.bool true) ∧ W3.drew.rangeAt w1.heap.size 3 (m.f.d.map bv) := ⟨c1, D1.out⟩
        have HS0 := Lib.hid hS0
        rw [HPUT.out] at hey3
        have HEY3 := Lib.hid (show EyeAt W3.drew q (m.f.d ++ putF (List.map MF.f (List.drop (j + 1) ms))) from hey3.below (Below.refl _ _).drew)
        have HBT3 := Lib.hid (show But q wr W3.drew from hbt3.trans (But.ofBelow (by omega) (Below.refl _ _).drew))
        have hq3 : q < W3.heap.size := by omega
        clear hey3 hbt3 c1 hS0 d0 hpr3
        refine wp_region_any (by kernel_rfl) ?_
        refine wpAny_of_held (S := fun w' => w'.cell? ⟨p, 1, none⟩ = some (.bool true) ∧ w'.rangeAt w1.heap.size 3 (m.f.d.map bv)) _ _ _ _ ?_
        refine heldTake 0 59 rfl rfl (by kernel_rfl) (by kernel_rfl) (by kernel_rfl) (fun _ _ _ h => h) HS0.out (.inl ⟨by rfl, by intro w' hS; (try dsimp only at hS); go_simp; (try rfl)⟩) ?_
        simp only [List.set_cons_zero, List.set_cons_succ]
        refine heldTake 1 60 rfl rfl (by kernel_rfl) (by kernel_rfl) (by kernel_rfl) (fun _ _ _ h => h) HS0.out (.inl ⟨by rfl, by intro w' hS; (try dsimp only at hS); go_simp; (try rfl)⟩) ?_
        simp only [List.set_cons_zero, List.set_cons_succ]
        refine heldTake 2 61 rfl rfl (by kernel_rfl) (by kernel_rfl) (by kernel_rfl) (fun _ _ _ h => h) HS0.out (.inl ⟨by rfl, by intro w' hS; (try dsimp only at hS); go_simp; (try rfl)⟩) ?_
        simp only [List.set_cons_zero, List.set_cons_succ]
        refine heldTake 3 62 rfl rfl (by kernel_rfl) (by kernel_rfl) (by kernel_rfl) (fun _ _ _ h => h) HS0.out (.inl ⟨by rfl, by intro w' hS; (try dsimp only at hS); go_simp; (try rfl)⟩) ?_
        simp only [List.set_cons_zero, List.set_cons_succ]
        refine heldTake 4 63 rfl rfl (by kernel_rfl) (by kernel_rfl) (by kernel_rfl) (fun _ _ _ h => h) HS0.out (.inl ⟨by rfl, by intro w' hS; (try dsimp only at hS); go_simp; (try rfl)⟩) ?_
        simp only [List.set_cons_zero, List.set_cons_succ]
        refine heldTake 5 64 rfl rfl (by kernel_rfl) (by kernel_rfl) (by kernel_rfl) (fun _ _ _ h => h) HS0.out (.inl ⟨by rfl, by intro w' hS; (try dsimp only at hS); go_simp; (try rfl)⟩) ?_
        simp only [List.set_cons_zero, List.set_cons_succ]
        refine heldTake 6 65 rfl rfl (by kernel_rfl) (by kernel_rfl) (by kernel_rfl) (fun _ _ _ h => h) HS0.out (.inl ⟨by rfl, by intro w' hS; (try dsimp only at hS); go_simp; (try rfl)⟩) ?_
        simp only [List.set_cons_zero, List.set_cons_succ]
        refine heldTake 8 67 rfl rfl (by kernel_rfl) (by kernel_rfl) (by kernel_rfl) (fun _ _ _ h => h) HS0.out (.inl ⟨by rfl, by intro w' hS; (try dsimp only at hS); go_simp; (try rfl)⟩) ?_
        simp only [List.set_cons_zero, List.set_cons_succ]
        refine heldTake 9 68 rfl rfl (by kernel_rfl) (by kernel_rfl) (by kernel_rfl) (fun _ _ _ h => h) HS0.out (yieldsIf_load_mid (by rfl) 56 (.tmp 67) rfl w1.heap.size 3 rfl (m.f.d.map bv) _ (fun _ h => h.2) Try.underlying56 rfl (by rw [List.length_map, HD.out]; exact infoId)) ?_
        simp only [List.set_cons_zero, List.set_cons_succ]
        refine heldOne 7 (by kernel_rfl) rfl (by rfl) ?_
        go_simp
        refine (eyeId q _ _ HEY3.out).mono ?_
        rintro e w4 ⟨hb4, hr4⟩
        rw [getTake_put _ _ _ HD.out] at hr4
        obtain ⟨rfl, hey4⟩ := hr4
        have hs4 : W3.heap.size ≤ w4.heap.size := hb4.size
        have hS4 : w4.cell? ⟨p, 1, none⟩ = some (.bool true) ∧ w4.rangeAt w1.heap.size 3 (m.f.d.map bv) := by
          refine ⟨by rw [hb4.cells.1 p _ (by show p < W3.heap.size; omega) hpq]; exact HS0.out.1, fun i v hv => ?_⟩
          rw [hb4.cells.1 w1.heap.size _ (by show _ < W3.heap.size; omega) (by omega)]
          exact HS0.out.2 i v hv
        have HS4 := Lib.hid hS4
        have hrow4 := ((HI.out.bt.trans (HBT3.out.trans hb4)).block p hpl hpq).trans HP.out
        have HF4 := Lib.hid (show w4.frozen? ⟨p, 1, none⟩ = false from frozen_of_row _ _ _ _ _ hrow4)
        have HIN := Lib.hid (HI.out.turn hlt HP.out hpq (HBT3.out.trans hb4) hey4)
        refine ⟨hS4, ?_⟩
        clear hS4 hb4 hey4 hrow4
        have heq := run_eql_id m.f.d m.f.d HD.out HD.out
        rw [beq_self_eq_true] at heq
        refine heldTake 10 69 rfl rfl (by kernel_rfl) (by kernel_rfl) (by kernel_rfl) (fun _ _ _ h => h) HS4.out (.inl ⟨by rfl, by intro w' hS; (try dsimp only at hS); go_simp; (try rfl)⟩) ?_
        simp only [List.set_cons_zero, List.set_cons_succ]
        refine heldTake 11 70 rfl rfl (by kernel_rfl) (by kernel_rfl) (by kernel_rfl) (fun _ _ _ h => h) HS4.out (.inl ⟨by rfl, by intro w' hS; (try dsimp only at hS); go_simp; (try rfl)⟩) ?_
        simp only [List.set_cons_zero, List.set_cons_succ]
        refine heldTake 12 71 rfl rfl (by kernel_rfl) (by kernel_rfl) (by kernel_rfl) (fun _ _ _ h => h) HS4.out (.inl ⟨by rfl, by intro w' hS; (try dsimp only at hS); go_simp; (try rfl)⟩) ?_
        simp only [List.set_cons_zero, List.set_cons_succ]
        refine heldTake 13 72 rfl rfl (by kernel_rfl) (by kernel_rfl) (by kernel_rfl) (fun _ _ _ h => h) HS4.out (.inl ⟨by rfl, by intro w' hS; (try dsimp only at hS); go_simp; (try rfl)⟩) ?_
        simp only [List.set_cons_zero, List.set_cons_succ]
        clear heq
        refine heldOne 14 (by kernel_rfl) rfl (by rfl) ?_
        have c4 := HS4.out.1
        have f4 := HF4.out
        have HS5 := Lib.hid (show (w4.setCell ⟨p, 1, none⟩ (.bool true)).cell? ⟨p, 1, none⟩ = some (.bool true) ∧ (w4.setCell ⟨p, 1, none⟩ (.bool true)).rangeAt w1.heap.size 3 (m.f.d.map bv) from ⟨World.cell?_setCell_same _ _ _ c4, fun i v hv => (World.cell?_setCell_other _ _ _ _ (by intro e2; injection e2 with e3; omega)).trans (HS4.out.2 i v hv)⟩)
        refine wp_store_cell 4 (.tmp 72) (.tmp 70) rfl p 1 (.bool true) _ rfl rfl rfl infoBool c4 f4 ?_
        refine ⟨HS5.out, wpAnyH_done (by kernel_rfl) ?_ _⟩
        clear c4 f4
        go_wp2
        go_roundw
        case rel => exact ⟨j + 1, by go_num, HIN.out⟩
        case measure => simp [intOf]; omega
    · have hj : j = ms.length := by omega
      subst hj
      have hey := HI.out.eye
      simp only [List.drop_length, List.map_nil, putF] at hey
      have HEY := Lib.hid hey
      have HBT := Lib.hid HI.out.bt
      clear hey
      go_wp2
      go_end0
      exact ⟨rfl, HBT.out, HEY.out⟩
end Go.Proofs.Ytogcnfhmcpkdcaa
