/-
  Contracts of the reference's reader of letters: the next number, the next text.
  Contract of the reference's Read of a letter.
-/
import Derived.Test.YtogcnfhmcpkdcaaLetM4
import Derived.Test.YtogcnfhmcpkdcaaRefTakeM
namespace Go.Proofs.Ytogcnfhmcpkdcaa
open Go.RowKit
set_option linter.unusedVariables false
set_option linter.unusedSimpArgs false

/-- the reference's eye lies in block q -/
structure REAt (w : World) (B q : Nat) (s : RS) (a : Option Addr) (c : Nat) : Prop where
  row : w.heap[q]? = some (.cells #[.slice a s.l.length c, .int .i64 s.e] 189 (0, 0))
  b : BsAt w B a s.l.length c s.l
theorem REAt.cells {w : World} {B q : Nat} {s : RS} {a : Option Addr} {c : Nat} (h : REAt w B q s a c) : (w.cell? ⟨q, 0, none⟩ = some (.slice a s.l.length c) ∧ w.cell? ⟨q, 1, none⟩ = some (.int .i64 s.e)) ∧ ∀ o, w.frozen? ⟨q, o, none⟩ = false :=
  ⟨⟨cell_of_row w q 0 _ _ _ h.row, cell_of_row w q 1 _ _ _ h.row⟩, fun o => frozen_of_row _ _ _ _ _ h.row⟩
theorem REAt.lt {w : World} {B q : Nat} {s : RS} {a : Option Addr} {c : Nat} (h : REAt w B q s a c) : q < w.heap.size := (Array.getElem?_eq_some_iff.1 h.row).1
theorem REAt.below {w w' : World} {B q : Nat} {s : RS} {a : Option Addr} {c : Nat} (h : REAt w B q s a c) {N : Nat} (hb : Below N w w') (hB : B ≤ N) (hq : q < N) : REAt w' B q s a c := ⟨(hb.block _ hq).trans h.row, h.b.below hb hB⟩
theorem REAt.put {w : World} {B q : Nat} {s : RS} {a : Option Addr} {c : Nat} (h : REAt w B q s a c) (hB : B ≤ q) {r : List UInt8} {a' : Option Addr} {c' : Nat} (hb : BsAt w B a' r.length c' r) (e : Int) : REAt ((w.setCell ⟨q, 0, none⟩ (.slice a' r.length c')).setCell ⟨q, 1, none⟩ (.int .i64 e)) B q ⟨r, e⟩ a' c' := by
  have h1 := heap_setCell_same w q 0 _ _ (.slice a' r.length c') h.row
  have h2 := heap_setCell_same _ q 1 _ _ (.int .i64 e) h1
  refine ⟨by rw [h2]; simp, ?_⟩
  exact hb.below (((Below.refl q w).setCell (by simp) _).setCell (by simp) _) hB

theorem built_askT (n : Nat) : Try.prog.built 58 [(0, .int .i64 1), (1, .int .u64 (n : Int))] = some (askC 1 n) := by kernel_rfl

set_option maxRecDepth 100000 in
set_option maxHeartbeats 1000000 in
theorem r15EyeNum (most : Nat) (hm : most ≤ 1099511627776) (q B : Nat) (s : RS) (a : Option Addr) (c : Nat) (w : World) (h : REAt w B q s a c) (hB : B ≤ q) :
    Calls Try.prog 138 #[.pointer (some ⟨q, 0, none⟩), .int .i64 most] w fun e w' => e = .returned (.int .i64 (askN most s).1) ∧ w.grownBy w' (some q) ∧ ∃ a' c', REAt w' B q (askN most s).2 a' c' := by
  obtain ⟨R, hR⟩ : ∃ R, R = askN most s := ⟨_, rfl⟩
  rw [← hR]
  have HR := Lib.hid hR
  obtain ⟨l, x⟩ := s
  have H := Lib.hid h
  have hq := h.lt
  obtain ⟨⟨c0, c1⟩, ff⟩ := h.cells
  have f0 := ff 0
  have f1 := ff 1
  clear h hR ff
  by_cases hx : x = 0
  · subst hx
    have wm : IntKind.u64.wrap (most : Int) = most := IntWalk.u64_in _ (by omega)
    go_enter Try.func138, Try.ntmps138
    go_wp2_with (refine wpList_build_l rfl 58 [(1, .tmp 16)] rfl [(1, .int .u64 (most : Nat))] rfl (askC 0 most) (built_ask _) ?_)
    refine (refTake 0 l a l.length c askF most askF_len w B (by omega) H.out.b).mono ?_
    rintro e w4 ⟨gs, rfl, hgs, hb4⟩
    have hs4 := hb4.size
    obtain ⟨hz4, hone4⟩ := hgs.parts (takeP_d _ _ _)
    have HGS := Lib.hid hgs
    have HZ4 := Lib.hid hz4
    have HONE4 := Lib.hid hone4
    have HB4 := Lib.hid hb4
    have H4 := Lib.hid (H.out.below hb4 (by omega) hq)
    clear hgs hz4 hone4 hb4 c0 c1 f0 f1
    cases hg : getNum most l with
    | err x =>
      have hG := HGS.out
      rw [takeP_num_err hg] at hG
      have hR : R = (0, ⟨[], x⟩) := by rw [HR.out]; simp [askN, hg]
      subst hR
      have HG := Lib.hid hG
      clear hG hg HGS
      go_wp2_with (refine wpList_store_new rfl 61 (.tmp 5) (.tmp 18) rfl gs rfl rfl 61 _ (by rw [HZ4.out]; exact infoGot) HZ4.out.symm HONE4.out ?_; intro W5 hrow5 hb5 hs5; obtain ⟨a1, c1, a2, c2, hga, -, k1, -, k3, k4⟩ := HG.out.lay (by simp [zeros32]) (by omega) hrow5 hb5; have HB5 := Lib.hid hb5; have HLF := Lib.hid hga.lf; have H5 := Lib.hid (H4.out.below hb5 (by omega) (by omega)); obtain ⟨⟨d0, d1⟩, ff⟩ := H5.out.cells; have f0 := ff 0; have f1 := ff 1; clear ff hga hrow5 hb5)
      go_ret
      exact ⟨rfl, ⟨HB5.out.os.trans HB4.out.os, HB5.out.tape.trans HB4.out.tape, HB5.out.output.trans HB4.out.output, by simp; omega, fun k hk hne => (Below.heap_setCell _ _ _ k (fun e9 => hne (by rw [e9]))).trans ((Below.heap_setCell _ _ _ k (fun e9 => hne (by rw [e9]))).trans ((HB5.out.block k (by omega)).trans (HB4.out.block k hk)))⟩, a2, c2, H5.out.put hB HLF.out x⟩
    | ok v r =>
      have hv := getNum_most hg
      have hG := HGS.out
      rw [takeP_num_ok hg] at hG
      have hR : R = (v, ⟨r, 0⟩) := by rw [HR.out]; simp [askN, hg]
      subst hR
      have HG := Lib.hid hG
      have wv : IntKind.i64.wrap (v : Int) = v := IntWalk.i64_in _ (by omega)
      clear hG hg HGS
      go_wp2_with (refine wpList_store_new rfl 61 (.tmp 5) (.tmp 18) rfl gs rfl rfl 61 _ (by rw [HZ4.out]; exact infoGot) HZ4.out.symm HONE4.out ?_; intro W5 hrow5 hb5 hs5; obtain ⟨a1, c1, a2, c2, hga, -, k1, -, k3, k4⟩ := HG.out.lay (by simp [zeros32]) (by omega) hrow5 hb5; have HB5 := Lib.hid hb5; have HLF := Lib.hid hga.lf; have H5 := Lib.hid (H4.out.below hb5 (by omega) (by omega)); obtain ⟨⟨d0, d1⟩, ff⟩ := H5.out.cells; have f0 := ff 0; have f1 := ff 1; clear ff hga hrow5 hb5)
      go_ret
      exact ⟨rfl, ⟨HB5.out.os.trans HB4.out.os, HB5.out.tape.trans HB4.out.tape, HB5.out.output.trans HB4.out.output, by simp; omega, fun k hk hne => (Below.heap_setCell _ _ _ k (fun e9 => hne (by rw [e9]))).trans ((Below.heap_setCell _ _ _ k (fun e9 => hne (by rw [e9]))).trans ((HB5.out.block k (by omega)).trans (HB4.out.block k hk)))⟩, a2, c2, H5.out.put hB HLF.out 0⟩
  · have t1 : (x != 0) = true := by simpa using hx
    have hR : R = (0, ⟨l, x⟩) := by rw [HR.out]; exact askN_bad _ hx
    subst hR
    clear hx
    go_enter Try.func138, Try.ntmps138
    go_wp2
    go_ret
    exact ⟨rfl, ⟨rfl, rfl, rfl, Nat.le_refl _, fun _ _ _ => rfl⟩, a, c, H.out⟩

set_option maxRecDepth 100000 in
set_option maxHeartbeats 1000000 in
theorem r15EyeText (most : Nat) (hm : most ≤ 1099511627776) (q B : Nat) (s : RS) (a : Option Addr) (c : Nat) (w : World) (h : REAt w B q s a c) (hB : B ≤ q) :
    Calls Try.prog 139 #[.pointer (some ⟨q, 0, none⟩), .int .i64 most] w fun e w' => ∃ b' d', e = .returned (.slice b' (askT most s).1.length d') ∧ BsAt w' B b' (askT most s).1.length d' (askT most s).1 ∧ w.grownBy w' (some q) ∧ ∃ a' c', REAt w' B q (askT most s).2 a' c' := by
  obtain ⟨R, hR⟩ : ∃ R, R = askT most s := ⟨_, rfl⟩
  rw [← hR]
  have HR := Lib.hid hR
  obtain ⟨l, x⟩ := s
  have H := Lib.hid h
  have hq := h.lt
  obtain ⟨⟨c0, c1⟩, ff⟩ := h.cells
  have f0 := ff 0
  have f1 := ff 1
  clear h hR ff
  by_cases hx : x = 0
  · subst hx
    have wm : IntKind.u64.wrap (most : Int) = most := IntWalk.u64_in _ (by omega)
    go_enter Try.func139, Try.ntmps139
    go_wp2_with (refine wpList_build_l rfl 58 [(0, .const (.int .i64 1)), (1, .tmp 16)] rfl [(0, .int .i64 1), (1, .int .u64 (most : Nat))] rfl (askC 1 most) (built_askT _) ?_)
    refine (refTake 1 l a l.length c askF most askF_len w B (by omega) H.out.b).mono ?_
    rintro e w4 ⟨gs, rfl, hgs, hb4⟩
    have hs4 := hb4.size
    obtain ⟨hz4, hone4⟩ := hgs.parts (takeP_d _ _ _)
    have HGS := Lib.hid hgs
    have HZ4 := Lib.hid hz4
    have HONE4 := Lib.hid hone4
    have HB4 := Lib.hid hb4
    have H4 := Lib.hid (H.out.below hb4 (by omega) hq)
    clear hgs hz4 hone4 hb4 c0 c1 f0 f1
    cases hg : getText most l with
    | err x =>
      have hG := HGS.out
      rw [takeP_text_err hg] at hG
      have hR : R = ([], ⟨[], x⟩) := by rw [HR.out]; simp [askT, hg]
      subst hR
      have HG := Lib.hid hG
      clear hG hg HGS
      go_wp2_with (refine wpList_store_new rfl 61 (.tmp 5) (.tmp 18) rfl gs rfl rfl 61 _ (by rw [HZ4.out]; exact infoGot) HZ4.out.symm HONE4.out ?_; intro W5 hrow5 hb5 hs5; obtain ⟨a1, c1, a2, c2, hga, -, -, k2, k3, k4⟩ := HG.out.lay (by simp [zeros32]) (by omega) hrow5 hb5; have HB5 := Lib.hid hb5; have HLF := Lib.hid hga.lf; have HTX := Lib.hid hga.tx; have H5 := Lib.hid (H4.out.below hb5 (by omega) (by omega)); obtain ⟨⟨d0, d1⟩, ff⟩ := H5.out.cells; have f0 := ff 0; have f1 := ff 1; clear ff hga hrow5 hb5)
      go_ret
      exact ⟨a1, c1, rfl, HTX.out.below (((Below.refl q _).setCell (by simp) _).setCell (by simp) _) hB, ⟨HB5.out.os.trans HB4.out.os, HB5.out.tape.trans HB4.out.tape, HB5.out.output.trans HB4.out.output, by simp; omega, fun k hk hne => (Below.heap_setCell _ _ _ k (fun e9 => hne (by rw [e9]))).trans ((Below.heap_setCell _ _ _ k (fun e9 => hne (by rw [e9]))).trans ((HB5.out.block k (by omega)).trans (HB4.out.block k hk)))⟩, a2, c2, H5.out.put hB HLF.out x⟩
    | ok v r =>
      have hG := HGS.out
      rw [takeP_text_ok hg] at hG
      have hR : R = (v, ⟨r, 0⟩) := by rw [HR.out]; simp [askT, hg]
      subst hR
      have HG := Lib.hid hG
      clear hG hg HGS
      go_wp2_with (refine wpList_store_new rfl 61 (.tmp 5) (.tmp 18) rfl gs rfl rfl 61 _ (by rw [HZ4.out]; exact infoGot) HZ4.out.symm HONE4.out ?_; intro W5 hrow5 hb5 hs5; obtain ⟨a1, c1, a2, c2, hga, -, -, k2, k3, k4⟩ := HG.out.lay (by simp [zeros32]) (by omega) hrow5 hb5; have HB5 := Lib.hid hb5; have HLF := Lib.hid hga.lf; have HTX := Lib.hid hga.tx; have H5 := Lib.hid (H4.out.below hb5 (by omega) (by omega)); obtain ⟨⟨d0, d1⟩, ff⟩ := H5.out.cells; have f0 := ff 0; have f1 := ff 1; clear ff hga hrow5 hb5)
      go_ret
      exact ⟨a1, c1, rfl, HTX.out.below (((Below.refl q _).setCell (by simp) _).setCell (by simp) _) hB, ⟨HB5.out.os.trans HB4.out.os, HB5.out.tape.trans HB4.out.tape, HB5.out.output.trans HB4.out.output, by simp; omega, fun k hk hne => (Below.heap_setCell _ _ _ k (fun e9 => hne (by rw [e9]))).trans ((Below.heap_setCell _ _ _ k (fun e9 => hne (by rw [e9]))).trans ((HB5.out.block k (by omega)).trans (HB4.out.block k hk)))⟩, a2, c2, H5.out.put hB HLF.out 0⟩
  · have t1 : (x != 0) = true := by simpa using hx
    have hR : R = ([], ⟨l, x⟩) := by rw [HR.out]; exact askT_bad _ hx
    subst hR
    clear hx
    go_enter Try.func139, Try.ntmps139
    go_wp2
    go_ret
    exact ⟨none, 0, rfl, BsAt.zero _ _ _ _ (by simp [maxLen]) (fun _ => rfl), ⟨rfl, rfl, rfl, Nat.le_refl _, fun _ _ _ => rfl⟩, a, c, H.out⟩
end Go.Proofs.Ytogcnfhmcpkdcaa

namespace Go.Proofs.Ytogcnfhmcpkdcaa
open Go.RowKit
set_option linter.unusedVariables false
set_option linter.unusedSimpArgs false

/-- in the midst of Read: the letter lies in block g -/
structure Rd15 (w : World) (g : Nat) (W : World) (s : RS) (a : Option Addr) (c : Nat) (v : PLet) (ia : Option Addr) (ic : Nat) (ms : List MItem) (ba : Option Addr) (bc : Nat) : Prop where
  bel : Below w.heap.size w W
  lo : w.heap.size + 2 ≤ g
  res : W.heap[w.heap.size]? = some (.cells (lcell zeroL none 0 0 none 0) 111 (0, 0))
  eye : REAt W w.heap.size (w.heap.size + 1) s a c
  row : W.heap[g]? = some (.cells (lcell v ia ms.length ic ba bc) 111 (0, 0))
  own : W.ownsRow (g + 1) 45 2 (.slice ia ms.length ic) ms.length (cellsM ms)
  its : ms.map MItem.it = v.its
  bs : ∀ m ∈ ms, m.Bs W w.heap.size
  b : BsAt W w.heap.size ba v.b.length bc v.b
section
variable {w : World} {g : Nat} {W W' : World} {s s' : RS} {a a' : Option Addr} {c c' : Nat} {v v' : PLet} {ia ia' : Option Addr} {ic ic' : Nat} {ms ms' : List MItem} {ba ba' : Option Addr} {bc bc' : Nat}
theorem Rd15.lt (h : Rd15 w g W s a c v ia ic ms ba bc) : g < W.heap.size := (Array.getElem?_eq_some_iff.1 h.row).1
theorem Rd15.step (h : Rd15 w g W s a c v ia ic ms ba bc) (hg : W.grownBy W' (some (w.heap.size + 1))) (he : REAt W' w.heap.size (w.heap.size + 1) s' a' c') : Rd15 w g W' s' a' c' v ia ic ms ba bc := by
  have hl := h.lo
  have ht := h.lt
  have hb : Below w.heap.size W W' := ⟨hg.os, hg.tape, hg.output, hg.size, fun k hk => hg.block k (by omega) (by simp; omega)⟩
  refine ⟨h.bel.trans hb, hl, (hg.block _ (by omega) (by simp)).trans h.res, he, (hg.block g ht (by simp; omega)).trans h.row, own_mv h.own fun k cur hk _ => hg.block k (own_lt h.own hk).2 (by have := (own_lt h.own hk).1; simp; omega), h.its, fun m hm => (h.bs m hm).below hb (Nat.le_refl _), h.b.below hb (Nat.le_refl _)⟩
theorem Rd15.below (h : Rd15 w g W s a c v ia ic ms ba bc) (hb : Below W.heap.size W W') : Rd15 w g W' s a c v ia ic ms ba bc := by
  have hl := h.lo
  have ht := h.lt
  exact ⟨h.bel.trans (hb.mono (by omega)), hl, (hb.block _ (by omega)).trans h.res, h.eye.below hb (by omega) (by omega), (hb.block g ht).trans h.row, own_below' h.own hb, h.its, fun m hm => (h.bs m hm).below hb (by omega), h.b.below hb (by omega)⟩
/-- the letter's block, and what lies behind it, is turned -/
theorem Rd15.turn (h : Rd15 w g W s a c v ia ic ms ba bc) (hb : Below g W W') (hrow : W'.heap[g]? = some (.cells (lcell v' ia' ms'.length ic' ba' bc') 111 (0, 0))) (ho : W'.ownsRow (g + 1) 45 2 (.slice ia' ms'.length ic') ms'.length (cellsM ms')) (hi : ms'.map MItem.it = v'.its) (hm : ∀ m ∈ ms', m.Bs W' w.heap.size) (hv : BsAt W' w.heap.size ba' v'.b.length bc' v'.b) : Rd15 w g W' s a c v' ia' ic' ms' ba' bc' := by
  have hl := h.lo
  exact ⟨h.bel.trans (hb.mono (by omega)), hl, (hb.block _ (by omega)).trans h.res, h.eye.below hb (by omega) (by omega), hrow, ho, hi, hm, hv⟩
theorem Rd15.set (h : Rd15 w g W s a c v ia ic ms ba bc) (o : Nat) (x : Value) (hc : (lcell v ia ms.length ic ba bc).setIfInBounds o x = lcell v' ia ms.length ic ba' bc') (hi : v'.its = v.its) (hv : BsAt W w.heap.size ba' v'.b.length bc' v'.b) : Rd15 w g (W.setCell ⟨g, o, none⟩ x) s a c v' ia ic ms ba' bc' := by
  have hl := h.lo
  have h9 := heap_setCell_same W g o _ _ x h.row
  have hb : Below g W (W.setCell ⟨g, o, none⟩ x) := (Below.refl _ _).setCell (by simp) _
  refine h.turn hb (by rw [h9]; (try simp only [Array.set!_eq_setIfInBounds]); rw [hc]) (own_mv h.own fun k cur hk _ => Below.heap_setCell _ _ _ k (by have := (own_lt h.own hk).1; show k ≠ g; omega)) (h.its.trans hi.symm) (fun m hm => (h.bs m hm).below hb (by omega)) (hv.below hb (by omega))
theorem Rd15.cells (h : Rd15 w g W s a c v ia ic ms ba bc) : (W.cell? ⟨w.heap.size + 1, 0, none⟩ = some (.slice a s.l.length c) ∧ W.cell? ⟨w.heap.size + 1, 1, none⟩ = some (.int .i64 s.e)) ∧ (W.cell? ⟨g, 0, none⟩ = some (.int .i64 v.k) ∧ W.cell? ⟨g, 6, none⟩ = some (.slice ia ms.length ic)) ∧ (∀ o, W.frozen? ⟨g, o, none⟩ = false) ∧ (∀ o, W.frozen? ⟨w.heap.size + 1, o, none⟩ = false) :=
  ⟨h.eye.cells.1, ⟨cell_of_row W g 0 _ _ _ h.row, cell_of_row W g 6 _ _ _ h.row⟩, fun o => frozen_of_row _ _ _ _ _ h.row, h.eye.cells.2⟩
theorem Rd15.letAt (h : Rd15 w g W s a c v ia ic ms ba bc) {W9 : World} (hb : Below w.heap.size W W9) (hk : ∀ k, k ≠ w.heap.size → W9.heap[k]? = W.heap[k]?) : LetAt W9 W9.heap.size v ia ic ms ba bc := by
  have hl := h.lo
  have hs := (h.bel.trans hb).size
  have hown := own_mv h.own (w' := W9) fun k cur hkk _ => hk k (by have := (own_lt h.own hkk).1; omega)
  exact ⟨itemsOf9 hown rfl rfl fun m hm => ((h.bs m hm).below hb (Nat.le_refl _)).mono hs, h.its, (h.b.below hb (Nat.le_refl _)).mono hs⟩
end

/-- what the drawn region at the end reads -/
structure E15 (q : Nat) (x : Int) (W : World) : Prop where
  e : W.cell? ⟨q, 1, none⟩ = some (.int .i64 x)
/-- what the drawn region in the loop keeps -/
structure Z15 (g : Nat) (W : World) : Prop where
  s : g < W.heap.size

theorem way3 {G : World → Nat → Option Addr → Nat → Prop} {P : Prop} (F : World → Nat → Option Addr → Nat → Prop) (main : (∀ U n a c, F U n a c → G U n a c) → P) (key : ∀ U n a c, F U n a c → G U n a c) : P := main key

/-- behind the text, and the new item's cell, in the loop's drawn region -/
structure Way15 (w : World) (g : Nat) (U : World) (n : Nat) (a4 : Option Addr) (c4 : Nat) (z : Int) (tx : List UInt8) (s : RS) (t a u o : Int) (ia : Option Addr) (ic : Nat) (ms : List MItem) : Prop where
  rd : ∃ a' c', Rd15 w g U s a' c' ⟨3, t, a, u, o, false, ms.map MItem.it, []⟩ ia ic ms none 0
  it : SlAt U U.heap.size 2 (some ⟨n, 0, none⟩) 1 1 [.int .i64 z, .slice a4 tx.length c4]
  bs : BsAt U w.heap.size a4 tx.length c4 tx

theorem fink1 (t : Nat) (s : RS) : finK 1 t s = fin1 1 t s := rfl
theorem fink2 (t : Nat) (s : RS) : finK 2 t s = fin2 t s := rfl
theorem fink3 (t : Nat) (s : RS) : finK 3 t s = fin3 t s := rfl
theorem fink4 (t : Nat) (s : RS) : finK 4 t s = fin4 t s := rfl
theorem fink5 (t : Nat) (s : RS) : finK 5 t s = fin5 t s := rfl

set_option maxRecDepth 100000 in
set_option maxHeartbeats 8000000 in
theorem r15Read (l : List UInt8) (a : Option Addr) (n c : Nat) (w : World) (h : BsAt w w.heap.size a n c l) :
    Calls Try.prog 77 #[.slice a n c] w (LetTo (outLet (getLet l)) w) := by
  obtain ⟨j0, gi, gz0, gz1, gz2⟩ := info_parts infoItem3
  have hl := h.hlen
  subst hl
  obtain ⟨O, hO⟩ : ∃ O, O = outLet (getLet l) := ⟨_, rfl⟩
  rw [← hO]
  obtain ⟨k, s1, hk⟩ : ∃ k s1, (k, s1) = askN 5 ⟨l, 0⟩ := ⟨_, _, rfl⟩
  have hk5 : k ≤ 5 := by have := askN_le 5 ⟨l, 0⟩; rw [← hk] at this; exact this
  have HK := Lib.hid hk
  have HO := Lib.hid (show O = if s1.e = 0 ∧ k = 0 then (25, none) else finK k (askN 1099511627776 s1).1 (askN 1099511627776 s1).2 by rw [hO, outLet_eq, ← hk])
  have hK : k = 0 ∨ k = 1 ∨ k = 2 ∨ k = 3 ∨ k = 4 ∨ k = 5 := by omega
  have hkz : k ≠ 0 → s1.e = 0 := by
    intro h0
    have h9 := hk
    unfold askN at h9
    rw [if_pos rfl] at h9
    cases hg : getNum 5 l with
    | err x => simp only [hg] at h9; injection h9 with h1 _; exact absurd h1 h0
    | ok v r => simp only [hg] at h9; injection h9 with _ h2; rw [h2]
  have wk : IntKind.i64.wrap (k : Int) = k := IntWalk.i64_in _ (by omega)
  obtain ⟨W0, hW0⟩ : ∃ W0, W0 = (w.alloc (.cells zeroA 111)).alloc (.cells #[.slice a l.length c, .int .i64 0] 189) := ⟨_, rfl⟩
  have HW0 := Lib.hid hW0
  have hs0 : W0.heap.size = w.heap.size + 2 := by rw [hW0]; simp
  have HB0 := Lib.hid (show Below w.heap.size w W0 by rw [hW0]; exact ((Below.refl _ _).alloc (Nat.le_refl _) _).alloc (by simp) _)
  have HR0 := Lib.hid (show W0.heap[w.heap.size]? = some (.cells (lcell zeroL none 0 0 none 0) 111 (0, 0)) by
    rw [hW0]
    exact (((Below.refl _ _).alloc (Nat.le_refl (w.alloc (.cells zeroA 111)).heap.size) _).block _ (by simp)).trans (heap_alloc_new w _))
  have HE0 := Lib.hid (show REAt W0 w.heap.size (w.heap.size + 1) ⟨l, 0⟩ a c from ⟨by
    rw [hW0]
    have h9 := heap_alloc_new (w.alloc (.cells zeroA 111)) (.cells #[.slice a l.length c, .int .i64 0] 189)
    simpa using h9, h.below HB0.out (Nat.le_refl _)⟩)
  clear h hO hk hW0
  go_enter Try.func77, Try.ntmps77
  go_wp2_with fail
  rw [← HW0.out]
  refine (r15EyeNum 5 (by omega) (w.heap.size + 1) w.heap.size ⟨l, 0⟩ a c W0 HE0.out (by omega)).mono ?_
  rintro e w1 ⟨rfl, hg1, a1, c1, he1⟩
  rw [show (askN 5 ⟨l, 0⟩).2 = s1 by rw [← HK.out]] at he1
  rw [show (askN 5 ⟨l, 0⟩).1 = k by rw [← HK.out]]
  have hs1 := hg1.size
  obtain ⟨w2, hw2⟩ : ∃ W, W = w1.alloc (.cells #[.int .i64 (k : Int), .int .i64 0, .int .i64 0, .int .i64 0, .int .i64 0, .bool false, .slice none 0 0, .slice none 0 0] 111) := ⟨_, rfl⟩
  have hb2 : Below w1.heap.size w1 w2 := by rw [hw2]; exact (Below.refl _ _).alloc (Nat.le_refl _) _
  have hrow2 : w2.heap[w1.heap.size]? = some (.cells (lcell ⟨k, 0, 0, 0, 0, false, [], []⟩ none 0 0 none 0) 111 (0, 0)) := by rw [hw2]; exact heap_alloc_new w1 _
  have hbel1 : Below w.heap.size W0 w1 := ⟨hg1.os, hg1.tape, hg1.output, hg1.size, fun k hk => hg1.block k (by omega) (by simp; omega)⟩
  have HC2 := Lib.hid (show Rd15 w w1.heap.size w2 s1 a1 c1 ⟨k, 0, 0, 0, 0, false, [], []⟩ none 0 [] none 0 from
    ⟨HB0.out.trans (hbel1.trans (hb2.mono (by omega))), by omega, (hb2.block _ (by omega)).trans ((hg1.block _ (by omega) (by simp)).trans HR0.out), he1.below hb2 (by omega) (by omega), hrow2, ⟨rfl, .inl ⟨rfl, rfl⟩⟩, rfl, by simp, BsAt.zero _ _ _ _ (by simp [maxLen]) (fun _ => rfl)⟩)
  have HW2 := Lib.hid hw2
  clear hw2 hb2 hrow2 hbel1 hg1 he1 hk5 wk
  rcases hK with rfl | rfl | rfl | rfl | rfl | rfl
  · by_cases hz : s1.e = 0
    · have hO : O = (25, none) := by rw [HO.out, if_pos ⟨hz, rfl⟩]
      subst hO
      have tz : (s1.e == 0) = true := by simpa using hz
      obtain ⟨⟨q0, q1⟩, ⟨d0, d6⟩, -, -⟩ := HC2.out.cells
      have d0 : w2.cell? ⟨w1.heap.size, 0, none⟩ = some (.int .i64 0) := d0
      rw [show w2 = w1.alloc (.cells #[.int .i64 0, .int .i64 0, .int .i64 0, .int .i64 0, .int .i64 0, .bool false, .slice none 0 0, .slice none 0 0] 111) from HW2.out] at HC2 q0 q1 d0 d6
      go_wp2_with (refine wpList_store_abs rfl 111 (.tmp 2) (.tmp 25) rfl w.heap.size _ rfl rfl 111 _ HC2.out.res infoLetter rfl (by simp [Value.oneCell']) ?_; intro W9 hrow9 hoth9 hb9 hs9)
      refine bodyPost_ret (results_row_tmp rfl _ _ w.heap.size 111 _ (0, 0) _ rfl hrow9 Try.underlying111 rfl infoLetter) rfl ⟨HC2.out.bel.trans hb9, rfl⟩
    · have tz : (s1.e == 0) = false := by simpa using hz
      have hO : O = (s1.e, none) := by rw [HO.out, if_neg (fun h9 => hz h9.1)]; exact (finK_bad _ _ (by rw [askN_bad _ hz]; exact hz)).trans (by rw [askN_bad _ hz])
      have hzk := hz
      clear hz
      clear hkz
      obtain ⟨⟨q0, q1⟩, ⟨d0, d6⟩, ff, fq⟩ := HC2.out.cells
      have d0 : (w2).cell? ⟨w1.heap.size, 0, none⟩ = some (.int .i64 0) := d0
      clear ff fq
      rw [show w2 = w1.alloc (.cells #[.int .i64 0, .int .i64 0, .int .i64 0, .int .i64 0, .int .i64 0, .bool false, .slice none 0 0, .slice none 0 0] 111) from HW2.out] at HC2 q0 q1 d0 d6
      obtain ⟨t, s3, hp3⟩ : ∃ n s, (n, s) = askN 1099511627776 s1 := ⟨_, _, rfl⟩
      have HP3 := Lib.hid hp3
      have hm3 : t ≤ 1099511627776 := by have := askN_le 1099511627776 s1; rw [← hp3] at this; exact this
      clear hp3
      go_wp2_with fail
      clear q0 q1 d0 d6
      refine (r15EyeNum 1099511627776 (by omega) (w.heap.size + 1) w.heap.size s1 a1 c1 _ HC2.out.eye (by omega)).mono ?_
      rintro e w3 ⟨rfl, hg3, a3, c3, he3⟩
      rw [show (askN 1099511627776 s1).2 = s3 by rw [← HP3.out]] at he3
      rw [show (askN 1099511627776 s1).1 = t by rw [← HP3.out]]
      have HC3 := Lib.hid (HC2.out.step hg3 he3)
      have hlt3 := HC3.out.lt
      have HD3 := Lib.hid (HC3.out.set 1 (.int .i64 t) (v' := ⟨0, t, 0, 0, 0, false, [], []⟩) rfl rfl HC3.out.b)
      clear hg3 he3
      obtain ⟨⟨q0, q1⟩, ⟨d0, d6⟩, ff, fq⟩ := HC3.out.cells
      have d0 : (w3).cell? ⟨w1.heap.size, 0, none⟩ = some (.int .i64 0) := d0
      have f1 := ff 1
      have l1 := (letCells HC3.out.row).2.1
      clear ff fq
      obtain ⟨va, s4, hp4⟩ : ∃ n s, (n, s) = askN 1099511627776 s3 := ⟨_, _, rfl⟩
      have HP4 := Lib.hid hp4
      have hm4 : va ≤ 1099511627776 := by have := askN_le 1099511627776 s3; rw [← hp4] at this; exact this
      clear hp4
      go_wp2_with fail
      clear q0 q1 d0 d6 f1 l1
      obtain ⟨x4, hx4⟩ : ∃ W, W = w3.setCell ⟨w1.heap.size, 1, none⟩ (.int .i64 t) := ⟨_, rfl⟩
      rw [← hx4] at HD3 ⊢
      clear hx4
      refine (r15EyeNum 1099511627776 (by omega) (w.heap.size + 1) w.heap.size s3 a3 c3 _ HD3.out.eye (by omega)).mono ?_
      rintro e w4 ⟨rfl, hg4, a4, c4, he4⟩
      rw [show (askN 1099511627776 s3).2 = s4 by rw [← HP4.out]] at he4
      rw [show (askN 1099511627776 s3).1 = va by rw [← HP4.out]]
      have HC4 := Lib.hid (HD3.out.step hg4 he4)
      have hlt4 := HC4.out.lt
      have HD4 := Lib.hid (HC4.out.set 2 (.int .i64 va) (v' := ⟨0, t, va, 0, 0, false, [], []⟩) rfl rfl HC4.out.b)
      clear hg4 he4
      obtain ⟨⟨q0, q1⟩, ⟨d0, d6⟩, ff, fq⟩ := HC4.out.cells
      have d0 : (w4).cell? ⟨w1.heap.size, 0, none⟩ = some (.int .i64 0) := d0
      have f2 := ff 2
      have l2 := (letCells HC4.out.row).2.2.1
      clear ff fq
      obtain ⟨vu, s5, hp5⟩ : ∃ n s, (n, s) = askN 1099511627776 s4 := ⟨_, _, rfl⟩
      have HP5 := Lib.hid hp5
      have hm5 : vu ≤ 1099511627776 := by have := askN_le 1099511627776 s4; rw [← hp5] at this; exact this
      clear hp5
      go_wp2_with fail
      clear q0 q1 d0 d6 f2 l2
      obtain ⟨x5, hx5⟩ : ∃ W, W = w4.setCell ⟨w1.heap.size, 2, none⟩ (.int .i64 va) := ⟨_, rfl⟩
      rw [← hx5] at HD4 ⊢
      clear hx5
      refine (r15EyeNum 1099511627776 (by omega) (w.heap.size + 1) w.heap.size s4 a4 c4 _ HD4.out.eye (by omega)).mono ?_
      rintro e w5 ⟨rfl, hg5, a5, c5, he5⟩
      rw [show (askN 1099511627776 s4).2 = s5 by rw [← HP5.out]] at he5
      rw [show (askN 1099511627776 s4).1 = vu by rw [← HP5.out]]
      have HC5 := Lib.hid (HD4.out.step hg5 he5)
      have hlt5 := HC5.out.lt
      have HD5 := Lib.hid (HC5.out.set 3 (.int .i64 vu) (v' := ⟨0, t, va, vu, 0, false, [], []⟩) rfl rfl HC5.out.b)
      clear hg5 he5
      obtain ⟨⟨q0, q1⟩, ⟨d0, d6⟩, ff, fq⟩ := HC5.out.cells
      have d0 : (w5).cell? ⟨w1.heap.size, 0, none⟩ = some (.int .i64 0) := d0
      have f3 := ff 3
      have l3 := (letCells HC5.out.row).2.2.2.1
      clear ff fq
      have hse : s5.e = s1.e := by
        have b3 := HP3.out; rw [askN_bad _ hzk] at b3; injection b3 with _ e3
        have b4 := HP4.out; rw [e3, askN_bad _ hzk] at b4; injection b4 with _ e4
        have b5 := HP5.out; rw [e4, askN_bad _ hzk] at b5; injection b5 with _ e5
        rw [e5]
      rw [← hse] at hO
      have te : (s5.e == 0) = false := by simpa using (by rw [hse]; exact hzk : s5.e ≠ 0)
      have te2 : (s5.e != 0) = true := by simpa using (by rw [hse]; exact hzk : s5.e ≠ 0)
      clear hse hzk
      clear q0 q1 d0 d6 f3 l3
      subst hO
      obtain ⟨⟨q0, q1⟩, ⟨d0, d6⟩, ff, fq⟩ := HC5.out.cells
      have d0 : (w5).cell? ⟨w1.heap.size, 0, none⟩ = some (.int .i64 0) := d0
      have f3 := ff 3
      have l3 := (letCells HC5.out.row).2.2.2.1
      have g1 := fq 1
      clear ff fq
      go_wp2_with fail
      obtain ⟨U, hU⟩ : ∃ U, U = w5.setCell ⟨w1.heap.size, 3, none⟩ (.int .i64 vu) := ⟨_, rfl⟩
      rw [← hU]
      have hq : U.cell? ⟨w.heap.size + 1, 1, none⟩ = some (.int .i64 s5.e) := by rw [hU]; exact HD5.out.eye.cells.1.2
      have HRU := Lib.hid (show U.heap[w.heap.size]? = some (.cells (lcell zeroL none 0 0 none 0) 111 (0, 0)) by rw [hU]; exact HD5.out.res)
      have HBU := Lib.hid (show Below w.heap.size w U by rw [hU]; exact HD5.out.bel)
      clear hU
      refine wp_region_any (by kernel_rfl) ?_
      refine wpAny_of_held (S := E15 (w.heap.size + 1) (s5.e)) _ _ _ _ ?_
      have hS0 : E15 (w.heap.size + 1) (s5.e) U.drew := ⟨hq⟩
      clear hq q0 q1 d0 d6 g1 f3 l3
      refine heldTake 0 124 (v := .agg (lcell zeroL none 0 0 none 0)) rfl rfl (by kernel_rfl) (by kernel_rfl) (by kernel_rfl) (fun _ _ _ h => h) hS0 (.inl ⟨by rfl, by intro w' hS; clear hS; go_simp; (try (all_goals rfl))⟩) ?_
      simp only [List.set_cons_zero, List.set_cons_succ]
      refine heldTake 1 125 rfl rfl (by kernel_rfl) (by kernel_rfl) (by kernel_rfl) (fun _ _ _ h => h) hS0 (.inl ⟨by rfl, by intro w' hS; obtain ⟨s1⟩ := hS; go_simp; (try rfl)⟩) ?_
      simp only [List.set_cons_zero, List.set_cons_succ]
      refine heldTake 2 126 rfl rfl (by kernel_rfl) (by kernel_rfl) (by kernel_rfl) (fun _ _ _ h => h) hS0 (.inl ⟨by rfl, by intro w' hS; obtain ⟨s1⟩ := hS; go_simp; (try rfl)⟩) ?_
      simp only [List.set_cons_zero, List.set_cons_succ]
      refine heldTake 3 127 rfl rfl (by kernel_rfl) (by kernel_rfl) (by kernel_rfl) (fun _ _ _ h => h) hS0 (.inl ⟨by rfl, by intro w' hS; obtain ⟨s1⟩ := hS; go_simp; (try rfl)⟩) ?_
      simp only [List.set_cons_zero, List.set_cons_succ]
      refine heldTake 4 128 rfl rfl (by kernel_rfl) (by kernel_rfl) (by kernel_rfl) (fun _ _ _ h => h) hS0 (.inl ⟨by rfl, by intro w' hS; obtain ⟨s1⟩ := hS; go_simp; (try rfl)⟩) ?_
      simp only [List.set_cons_zero, List.set_cons_succ]
      refine heldOne 5 (by kernel_rfl) rfl (by rfl) ?_
      refine wp_store_row 111 (.tmp 2) (.tmp 124) rfl w.heap.size (lcell zeroL none 0 0 none 0) rfl rfl 111 _ HRU.out infoLetter rfl (by simp [Value.oneCell']) ?_
      have hS1 : E15 (w.heap.size + 1) (s5.e) (U.drew.setRow w.heap.size (lcell zeroL none 0 0 none 0)) := ⟨(World.cell?_of_block (a := ⟨w.heap.size + 1, 1, none⟩) (setRow_other _ _ _ _ (by show w.heap.size + 1 ≠ w.heap.size; omega))).trans hS0.e⟩
      refine ⟨hS1, ?_⟩
      refine heldTake 6 3 rfl rfl (by kernel_rfl) (by kernel_rfl) (by kernel_rfl) (fun _ _ _ h => h) hS1 (.inl ⟨by rfl, by intro w' hS; obtain ⟨s1⟩ := hS; go_simp; (try rfl)⟩) ?_
      simp only [List.set_cons_zero, List.set_cons_succ]
      refine wpAnyH_done (by kernel_rfl) ?_ _
      have HROWF := Lib.hid (setRow_heap U.drew w.heap.size _ (lcell zeroL none 0 0 none 0) 111 _ HRU.out)
      have HBF := Lib.hid (HBU.out.trans ((Below.refl _ U).drew.trans (below_setRow U.drew (lcell zeroL none 0 0 none 0) (Nat.le_refl _))))
      clear hS0 hS1
      go_wp2
      (try rw [Exit.noGoto_ret])
      refine bodyPost_ret (results_row_tmp rfl _ _ w.heap.size 111 _ (0, 0) _ rfl HROWF.out Try.underlying111 rfl infoLetter) rfl ⟨HBF.out, rfl⟩
  · have hz := hkz (by decide)
    have tz : (s1.e == 0) = true := by simpa using hz
    clear hz
    clear hkz
    obtain ⟨⟨q0, q1⟩, ⟨d0, d6⟩, ff, fq⟩ := HC2.out.cells
    have d0 : (w2).cell? ⟨w1.heap.size, 0, none⟩ = some (.int .i64 1) := d0
    clear ff fq
    rw [show w2 = w1.alloc (.cells #[.int .i64 1, .int .i64 0, .int .i64 0, .int .i64 0, .int .i64 0, .bool false, .slice none 0 0, .slice none 0 0] 111) from HW2.out] at HC2 q0 q1 d0 d6
    obtain ⟨t, s3, hp3⟩ : ∃ n s, (n, s) = askN 1099511627776 s1 := ⟨_, _, rfl⟩
    have HP3 := Lib.hid hp3
    have hm3 : t ≤ 1099511627776 := by have := askN_le 1099511627776 s1; rw [← hp3] at this; exact this
    clear hp3
    go_wp2_with fail
    clear q0 q1 d0 d6
    refine (r15EyeNum 1099511627776 (by omega) (w.heap.size + 1) w.heap.size s1 a1 c1 _ HC2.out.eye (by omega)).mono ?_
    rintro e w3 ⟨rfl, hg3, a3, c3, he3⟩
    rw [show (askN 1099511627776 s1).2 = s3 by rw [← HP3.out]] at he3
    rw [show (askN 1099511627776 s1).1 = t by rw [← HP3.out]]
    have HC3 := Lib.hid (HC2.out.step hg3 he3)
    have hlt3 := HC3.out.lt
    have HD3 := Lib.hid (HC3.out.set 1 (.int .i64 t) (v' := ⟨1, t, 0, 0, 0, false, [], []⟩) rfl rfl HC3.out.b)
    clear hg3 he3
    obtain ⟨⟨q0, q1⟩, ⟨d0, d6⟩, ff, fq⟩ := HC3.out.cells
    have d0 : (w3).cell? ⟨w1.heap.size, 0, none⟩ = some (.int .i64 1) := d0
    have f1 := ff 1
    have l1 := (letCells HC3.out.row).2.1
    clear ff fq
    obtain ⟨va, s4, hp4⟩ : ∃ n s, (n, s) = askN 1099511627776 s3 := ⟨_, _, rfl⟩
    have HP4 := Lib.hid hp4
    have hm4 : va ≤ 1099511627776 := by have := askN_le 1099511627776 s3; rw [← hp4] at this; exact this
    clear hp4
    go_wp2_with fail
    clear q0 q1 d0 d6 f1 l1
    obtain ⟨x4, hx4⟩ : ∃ W, W = w3.setCell ⟨w1.heap.size, 1, none⟩ (.int .i64 t) := ⟨_, rfl⟩
    rw [← hx4] at HD3 ⊢
    clear hx4
    refine (r15EyeNum 1099511627776 (by omega) (w.heap.size + 1) w.heap.size s3 a3 c3 _ HD3.out.eye (by omega)).mono ?_
    rintro e w4 ⟨rfl, hg4, a4, c4, he4⟩
    rw [show (askN 1099511627776 s3).2 = s4 by rw [← HP4.out]] at he4
    rw [show (askN 1099511627776 s3).1 = va by rw [← HP4.out]]
    have HC4 := Lib.hid (HD3.out.step hg4 he4)
    have hlt4 := HC4.out.lt
    have HD4 := Lib.hid (HC4.out.set 2 (.int .i64 va) (v' := ⟨1, t, va, 0, 0, false, [], []⟩) rfl rfl HC4.out.b)
    clear hg4 he4
    obtain ⟨⟨q0, q1⟩, ⟨d0, d6⟩, ff, fq⟩ := HC4.out.cells
    have d0 : (w4).cell? ⟨w1.heap.size, 0, none⟩ = some (.int .i64 1) := d0
    have f2 := ff 2
    have l2 := (letCells HC4.out.row).2.2.1
    clear ff fq
    obtain ⟨vu, s5, hp5⟩ : ∃ n s, (n, s) = askN 1099511627776 s4 := ⟨_, _, rfl⟩
    have HP5 := Lib.hid hp5
    have hm5 : vu ≤ 1099511627776 := by have := askN_le 1099511627776 s4; rw [← hp5] at this; exact this
    clear hp5
    go_wp2_with fail
    clear q0 q1 d0 d6 f2 l2
    obtain ⟨x5, hx5⟩ : ∃ W, W = w4.setCell ⟨w1.heap.size, 2, none⟩ (.int .i64 va) := ⟨_, rfl⟩
    rw [← hx5] at HD4 ⊢
    clear hx5
    refine (r15EyeNum 1099511627776 (by omega) (w.heap.size + 1) w.heap.size s4 a4 c4 _ HD4.out.eye (by omega)).mono ?_
    rintro e w5 ⟨rfl, hg5, a5, c5, he5⟩
    rw [show (askN 1099511627776 s4).2 = s5 by rw [← HP5.out]] at he5
    rw [show (askN 1099511627776 s4).1 = vu by rw [← HP5.out]]
    have HC5 := Lib.hid (HD4.out.step hg5 he5)
    have hlt5 := HC5.out.lt
    have HD5 := Lib.hid (HC5.out.set 3 (.int .i64 vu) (v' := ⟨1, t, va, vu, 0, false, [], []⟩) rfl rfl HC5.out.b)
    clear hg5 he5
    obtain ⟨⟨q0, q1⟩, ⟨d0, d6⟩, ff, fq⟩ := HC5.out.cells
    have d0 : (w5).cell? ⟨w1.heap.size, 0, none⟩ = some (.int .i64 1) := d0
    have f3 := ff 3
    have l3 := (letCells HC5.out.row).2.2.2.1
    clear ff fq
    have HOF := Lib.hid (show O = fin ⟨1, t, va, vu, 0, false, [], []⟩ s5 by
      rw [HO.out, if_neg (by simp), ← HP3.out, fink1]
      simp only [fin1, ← HP4.out, ← HP5.out]; (try rfl))
    clear q0 q1 d0 d6 f3 l3
    by_cases he9 : s5.e = 0
    · have te : (s5.e == 0) = true := by simpa using he9
      have te2 : (s5.e != 0) = false := by simp [he9]
      by_cases hl9 : s5.l = []
      · have tl : decide (0 < s5.l.length) = false := by rw [hl9]; rfl
        have hO : O = (0, some ⟨1, t, va, vu, 0, false, [], []⟩) := by rw [HOF.out]; simp [fin, he9, hl9]
        subst hO
        clear he9 hl9
        obtain ⟨⟨q0, q1⟩, ⟨d0, d6⟩, ff, fq⟩ := HC5.out.cells
        have d0 : (w5).cell? ⟨w1.heap.size, 0, none⟩ = some (.int .i64 1) := d0
        have f3 := ff 3
        have l3 := (letCells HC5.out.row).2.2.2.1
        have g1 := fq 1
        clear ff fq
        obtain ⟨-, c1, c2, c3, c4, c5, c6, c7⟩ := letCells HC5.out.row
        go_wp2_with (refine wpList_store_abs rfl 111 (.tmp 2) (.tmp 129) rfl w.heap.size _ rfl rfl 111 _ HD5.out.res infoLetter rfl (by simp [Value.oneCell']) ?_; intro W9 hrow9 hoth9 hb9 hs9)
        refine bodyPost_ret (results_row_tmp rfl _ _ w.heap.size 111 _ (0, 0) _ rfl hrow9 Try.underlying111 rfl infoLetter) rfl ?_
        exact ⟨HD5.out.bel.trans hb9, none, 0, ([] : List MItem), none, 0, rfl, HD5.out.letAt hb9 hoth9⟩
      · have tl : decide ((0 : Int) < (s5.l.length : Int)) = true := by
          have h9 : 0 < s5.l.length := List.length_pos_iff.2 hl9
          simp; omega
        have tl2 : decide (0 < s5.l.length) = true := by
          have h9 : 0 < s5.l.length := List.length_pos_iff.2 hl9
          simp; omega
        have hO : O = (3, none) := by rw [HOF.out]; simp [fin, he9, hl9]
        subst hO
        clear he9 hl9
        obtain ⟨⟨q0, q1⟩, ⟨d0, d6⟩, ff, fq⟩ := HC5.out.cells
        have d0 : (w5).cell? ⟨w1.heap.size, 0, none⟩ = some (.int .i64 1) := d0
        have f3 := ff 3
        have l3 := (letCells HC5.out.row).2.2.2.1
        have g1 := fq 1
        clear ff fq
        go_wp2_with fail
        obtain ⟨U, hU⟩ : ∃ U, U = (w5.setCell ⟨w1.heap.size, 3, none⟩ (.int .i64 vu)).setCell ⟨w.heap.size + 1, 1, none⟩ (.int .i64 3) := ⟨_, rfl⟩
        rw [← hU]
        have hq : U.cell? ⟨w.heap.size + 1, 1, none⟩ = some (.int .i64 3) := by rw [hU]; exact World.cell?_setCell_same _ _ _ HD5.out.eye.cells.1.2
        have hbU : Below (w.heap.size + 1) (w5.setCell ⟨w1.heap.size, 3, none⟩ (.int .i64 vu)) U := by rw [hU]; exact (Below.refl _ _).setCell (by simp) _
        have HRU := Lib.hid (show U.heap[w.heap.size]? = some (.cells (lcell zeroL none 0 0 none 0) 111 (0, 0)) from (hbU.block _ (by omega)).trans HD5.out.res)
        have HBU := Lib.hid (HD5.out.bel.trans (hbU.mono (by omega)))
        clear hbU
        clear hU
        refine wp_region_any (by kernel_rfl) ?_
        refine wpAny_of_held (S := E15 (w.heap.size + 1) (3)) _ _ _ _ ?_
        have hS0 : E15 (w.heap.size + 1) (3) U.drew := ⟨hq⟩
        clear hq q0 q1 d0 d6 g1 f3 l3
        refine heldTake 0 124 (v := .agg (lcell zeroL none 0 0 none 0)) rfl rfl (by kernel_rfl) (by kernel_rfl) (by kernel_rfl) (fun _ _ _ h => h) hS0 (.inl ⟨by rfl, by intro w' hS; clear hS; go_simp; (try (all_goals rfl))⟩) ?_
        simp only [List.set_cons_zero, List.set_cons_succ]
        refine heldTake 1 125 rfl rfl (by kernel_rfl) (by kernel_rfl) (by kernel_rfl) (fun _ _ _ h => h) hS0 (.inl ⟨by rfl, by intro w' hS; obtain ⟨s1⟩ := hS; go_simp; (try rfl)⟩) ?_
        simp only [List.set_cons_zero, List.set_cons_succ]
        refine heldTake 2 126 rfl rfl (by kernel_rfl) (by kernel_rfl) (by kernel_rfl) (fun _ _ _ h => h) hS0 (.inl ⟨by rfl, by intro w' hS; obtain ⟨s1⟩ := hS; go_simp; (try rfl)⟩) ?_
        simp only [List.set_cons_zero, List.set_cons_succ]
        refine heldTake 3 127 rfl rfl (by kernel_rfl) (by kernel_rfl) (by kernel_rfl) (fun _ _ _ h => h) hS0 (.inl ⟨by rfl, by intro w' hS; obtain ⟨s1⟩ := hS; go_simp; (try rfl)⟩) ?_
        simp only [List.set_cons_zero, List.set_cons_succ]
        refine heldTake 4 128 rfl rfl (by kernel_rfl) (by kernel_rfl) (by kernel_rfl) (fun _ _ _ h => h) hS0 (.inl ⟨by rfl, by intro w' hS; obtain ⟨s1⟩ := hS; go_simp; (try rfl)⟩) ?_
        simp only [List.set_cons_zero, List.set_cons_succ]
        refine heldOne 5 (by kernel_rfl) rfl (by rfl) ?_
        refine wp_store_row 111 (.tmp 2) (.tmp 124) rfl w.heap.size (lcell zeroL none 0 0 none 0) rfl rfl 111 _ HRU.out infoLetter rfl (by simp [Value.oneCell']) ?_
        have hS1 : E15 (w.heap.size + 1) (3) (U.drew.setRow w.heap.size (lcell zeroL none 0 0 none 0)) := ⟨(World.cell?_of_block (a := ⟨w.heap.size + 1, 1, none⟩) (setRow_other _ _ _ _ (by show w.heap.size + 1 ≠ w.heap.size; omega))).trans hS0.e⟩
        refine ⟨hS1, ?_⟩
        refine heldTake 6 3 rfl rfl (by kernel_rfl) (by kernel_rfl) (by kernel_rfl) (fun _ _ _ h => h) hS1 (.inl ⟨by rfl, by intro w' hS; obtain ⟨s1⟩ := hS; go_simp; (try rfl)⟩) ?_
        simp only [List.set_cons_zero, List.set_cons_succ]
        refine wpAnyH_done (by kernel_rfl) ?_ _
        have HROWF := Lib.hid (setRow_heap U.drew w.heap.size _ (lcell zeroL none 0 0 none 0) 111 _ HRU.out)
        have HBF := Lib.hid (HBU.out.trans ((Below.refl _ U).drew.trans (below_setRow U.drew (lcell zeroL none 0 0 none 0) (Nat.le_refl _))))
        clear hS0 hS1
        go_wp2
        (try rw [Exit.noGoto_ret])
        refine bodyPost_ret (results_row_tmp rfl _ _ w.heap.size 111 _ (0, 0) _ rfl HROWF.out Try.underlying111 rfl infoLetter) rfl ⟨HBF.out, rfl⟩
    · have te : (s5.e == 0) = false := by simpa using he9
      have te2 : (s5.e != 0) = true := by simpa using he9
      have hO : O = (s5.e, none) := by rw [HOF.out]; simp [fin, he9]
      subst hO
      clear he9
      obtain ⟨⟨q0, q1⟩, ⟨d0, d6⟩, ff, fq⟩ := HC5.out.cells
      have d0 : (w5).cell? ⟨w1.heap.size, 0, none⟩ = some (.int .i64 1) := d0
      have f3 := ff 3
      have l3 := (letCells HC5.out.row).2.2.2.1
      have g1 := fq 1
      clear ff fq
      go_wp2_with fail
      obtain ⟨U, hU⟩ : ∃ U, U = w5.setCell ⟨w1.heap.size, 3, none⟩ (.int .i64 vu) := ⟨_, rfl⟩
      rw [← hU]
      have hq : U.cell? ⟨w.heap.size + 1, 1, none⟩ = some (.int .i64 s5.e) := by rw [hU]; exact HD5.out.eye.cells.1.2
      have HRU := Lib.hid (show U.heap[w.heap.size]? = some (.cells (lcell zeroL none 0 0 none 0) 111 (0, 0)) by rw [hU]; exact HD5.out.res)
      have HBU := Lib.hid (show Below w.heap.size w U by rw [hU]; exact HD5.out.bel)
      clear hU
      refine wp_region_any (by kernel_rfl) ?_
      refine wpAny_of_held (S := E15 (w.heap.size + 1) (s5.e)) _ _ _ _ ?_
      have hS0 : E15 (w.heap.size + 1) (s5.e) U.drew := ⟨hq⟩
      clear hq q0 q1 d0 d6 g1 f3 l3
      refine heldTake 0 124 (v := .agg (lcell zeroL none 0 0 none 0)) rfl rfl (by kernel_rfl) (by kernel_rfl) (by kernel_rfl) (fun _ _ _ h => h) hS0 (.inl ⟨by rfl, by intro w' hS; clear hS; go_simp; (try (all_goals rfl))⟩) ?_
      simp only [List.set_cons_zero, List.set_cons_succ]
      refine heldTake 1 125 rfl rfl (by kernel_rfl) (by kernel_rfl) (by kernel_rfl) (fun _ _ _ h => h) hS0 (.inl ⟨by rfl, by intro w' hS; obtain ⟨s1⟩ := hS; go_simp; (try rfl)⟩) ?_
      simp only [List.set_cons_zero, List.set_cons_succ]
      refine heldTake 2 126 rfl rfl (by kernel_rfl) (by kernel_rfl) (by kernel_rfl) (fun _ _ _ h => h) hS0 (.inl ⟨by rfl, by intro w' hS; obtain ⟨s1⟩ := hS; go_simp; (try rfl)⟩) ?_
      simp only [List.set_cons_zero, List.set_cons_succ]
      refine heldTake 3 127 rfl rfl (by kernel_rfl) (by kernel_rfl) (by kernel_rfl) (fun _ _ _ h => h) hS0 (.inl ⟨by rfl, by intro w' hS; obtain ⟨s1⟩ := hS; go_simp; (try rfl)⟩) ?_
      simp only [List.set_cons_zero, List.set_cons_succ]
      refine heldTake 4 128 rfl rfl (by kernel_rfl) (by kernel_rfl) (by kernel_rfl) (fun _ _ _ h => h) hS0 (.inl ⟨by rfl, by intro w' hS; obtain ⟨s1⟩ := hS; go_simp; (try rfl)⟩) ?_
      simp only [List.set_cons_zero, List.set_cons_succ]
      refine heldOne 5 (by kernel_rfl) rfl (by rfl) ?_
      refine wp_store_row 111 (.tmp 2) (.tmp 124) rfl w.heap.size (lcell zeroL none 0 0 none 0) rfl rfl 111 _ HRU.out infoLetter rfl (by simp [Value.oneCell']) ?_
      have hS1 : E15 (w.heap.size + 1) (s5.e) (U.drew.setRow w.heap.size (lcell zeroL none 0 0 none 0)) := ⟨(World.cell?_of_block (a := ⟨w.heap.size + 1, 1, none⟩) (setRow_other _ _ _ _ (by show w.heap.size + 1 ≠ w.heap.size; omega))).trans hS0.e⟩
      refine ⟨hS1, ?_⟩
      refine heldTake 6 3 rfl rfl (by kernel_rfl) (by kernel_rfl) (by kernel_rfl) (fun _ _ _ h => h) hS1 (.inl ⟨by rfl, by intro w' hS; obtain ⟨s1⟩ := hS; go_simp; (try rfl)⟩) ?_
      simp only [List.set_cons_zero, List.set_cons_succ]
      refine wpAnyH_done (by kernel_rfl) ?_ _
      have HROWF := Lib.hid (setRow_heap U.drew w.heap.size _ (lcell zeroL none 0 0 none 0) 111 _ HRU.out)
      have HBF := Lib.hid (HBU.out.trans ((Below.refl _ U).drew.trans (below_setRow U.drew (lcell zeroL none 0 0 none 0) (Nat.le_refl _))))
      clear hS0 hS1
      go_wp2
      (try rw [Exit.noGoto_ret])
      refine bodyPost_ret (results_row_tmp rfl _ _ w.heap.size 111 _ (0, 0) _ rfl HROWF.out Try.underlying111 rfl infoLetter) rfl ⟨HBF.out, rfl⟩
  · have hz := hkz (by decide)
    have tz : (s1.e == 0) = true := by simpa using hz
    clear hz
    clear hkz
    obtain ⟨⟨q0, q1⟩, ⟨d0, d6⟩, ff, fq⟩ := HC2.out.cells
    have d0 : (w2).cell? ⟨w1.heap.size, 0, none⟩ = some (.int .i64 2) := d0
    clear ff fq
    rw [show w2 = w1.alloc (.cells #[.int .i64 2, .int .i64 0, .int .i64 0, .int .i64 0, .int .i64 0, .bool false, .slice none 0 0, .slice none 0 0] 111) from HW2.out] at HC2 q0 q1 d0 d6
    obtain ⟨t, s3, hp3⟩ : ∃ n s, (n, s) = askN 1099511627776 s1 := ⟨_, _, rfl⟩
    have HP3 := Lib.hid hp3
    have hm3 : t ≤ 1099511627776 := by have := askN_le 1099511627776 s1; rw [← hp3] at this; exact this
    clear hp3
    go_wp2_with fail
    clear q0 q1 d0 d6
    refine (r15EyeNum 1099511627776 (by omega) (w.heap.size + 1) w.heap.size s1 a1 c1 _ HC2.out.eye (by omega)).mono ?_
    rintro e w3 ⟨rfl, hg3, a3, c3, he3⟩
    rw [show (askN 1099511627776 s1).2 = s3 by rw [← HP3.out]] at he3
    rw [show (askN 1099511627776 s1).1 = t by rw [← HP3.out]]
    have HC3 := Lib.hid (HC2.out.step hg3 he3)
    have hlt3 := HC3.out.lt
    have HD3 := Lib.hid (HC3.out.set 1 (.int .i64 t) (v' := ⟨2, t, 0, 0, 0, false, [], []⟩) rfl rfl HC3.out.b)
    clear hg3 he3
    obtain ⟨⟨q0, q1⟩, ⟨d0, d6⟩, ff, fq⟩ := HC3.out.cells
    have d0 : (w3).cell? ⟨w1.heap.size, 0, none⟩ = some (.int .i64 2) := d0
    have f1 := ff 1
    have l1 := (letCells HC3.out.row).2.1
    clear ff fq
    obtain ⟨vy, s4, hp4⟩ : ∃ n s, (n, s) = askN 1 s3 := ⟨_, _, rfl⟩
    have HP4 := Lib.hid hp4
    have hm4 : vy ≤ 1 := by have := askN_le 1 s3; rw [← hp4] at this; exact this
    clear hp4
    go_wp2_with fail
    clear q0 q1 d0 d6 f1 l1
    obtain ⟨x4, hx4⟩ : ∃ W, W = w3.setCell ⟨w1.heap.size, 1, none⟩ (.int .i64 t) := ⟨_, rfl⟩
    rw [← hx4] at HD3 ⊢
    clear hx4
    refine (r15EyeNum 1 (by omega) (w.heap.size + 1) w.heap.size s3 a3 c3 _ HD3.out.eye (by omega)).mono ?_
    rintro e w4 ⟨rfl, hg4, a4, c4, he4⟩
    rw [show (askN 1 s3).2 = s4 by rw [← HP4.out]] at he4
    rw [show (askN 1 s3).1 = vy by rw [← HP4.out]]
    have HC4 := Lib.hid (HD3.out.step hg4 he4)
    have hlt4 := HC4.out.lt
    have ty : ((vy : Int) == 1) = (vy == 1) := by rw [Bool.eq_iff_iff]; simp; omega
    have HD4 := Lib.hid (HC4.out.set 5 (.bool (vy == 1)) (v' := ⟨2, t, 0, 0, 0, vy == 1, [], []⟩) rfl rfl HC4.out.b)
    clear hg4 he4
    obtain ⟨⟨q0, q1⟩, ⟨d0, d6⟩, ff, fq⟩ := HC4.out.cells
    have d0 : (w4).cell? ⟨w1.heap.size, 0, none⟩ = some (.int .i64 2) := d0
    have f5 := ff 5
    have l5 := (letCells HC4.out.row).2.2.2.2.2.1
    clear ff fq
    have HOF := Lib.hid (show O = fin ⟨2, t, 0, 0, 0, vy == 1, [], []⟩ s4 by
      rw [HO.out, if_neg (by simp), ← HP3.out, fink2]
      simp only [fin2, ← HP4.out]; (try rfl))
    clear q0 q1 d0 d6 f5 l5
    by_cases he9 : s4.e = 0
    · have te : (s4.e == 0) = true := by simpa using he9
      have te2 : (s4.e != 0) = false := by simp [he9]
      by_cases hl9 : s4.l = []
      · have tl : decide (0 < s4.l.length) = false := by rw [hl9]; rfl
        have hO : O = (0, some ⟨2, t, 0, 0, 0, vy == 1, [], []⟩) := by rw [HOF.out]; simp [fin, he9, hl9]
        subst hO
        clear he9 hl9
        obtain ⟨⟨q0, q1⟩, ⟨d0, d6⟩, ff, fq⟩ := HC4.out.cells
        have d0 : (w4).cell? ⟨w1.heap.size, 0, none⟩ = some (.int .i64 2) := d0
        have f5 := ff 5
        have l5 := (letCells HC4.out.row).2.2.2.2.2.1
        have g1 := fq 1
        clear ff fq
        obtain ⟨-, c1, c2, c3, c4, c5, c6, c7⟩ := letCells HC4.out.row
        go_wp2_with (refine wpList_store_abs rfl 111 (.tmp 2) (.tmp 129) rfl w.heap.size _ rfl rfl 111 _ HD4.out.res infoLetter rfl (by simp [Value.oneCell']) ?_; intro W9 hrow9 hoth9 hb9 hs9)
        refine bodyPost_ret (results_row_tmp rfl _ _ w.heap.size 111 _ (0, 0) _ rfl hrow9 Try.underlying111 rfl infoLetter) rfl ?_
        exact ⟨HD4.out.bel.trans hb9, none, 0, ([] : List MItem), none, 0, rfl, HD4.out.letAt hb9 hoth9⟩
      · have tl : decide ((0 : Int) < (s4.l.length : Int)) = true := by
          have h9 : 0 < s4.l.length := List.length_pos_iff.2 hl9
          simp; omega
        have tl2 : decide (0 < s4.l.length) = true := by
          have h9 : 0 < s4.l.length := List.length_pos_iff.2 hl9
          simp; omega
        have hO : O = (3, none) := by rw [HOF.out]; simp [fin, he9, hl9]
        subst hO
        clear he9 hl9
        obtain ⟨⟨q0, q1⟩, ⟨d0, d6⟩, ff, fq⟩ := HC4.out.cells
        have d0 : (w4).cell? ⟨w1.heap.size, 0, none⟩ = some (.int .i64 2) := d0
        have f5 := ff 5
        have l5 := (letCells HC4.out.row).2.2.2.2.2.1
        have g1 := fq 1
        clear ff fq
        go_wp2_with fail
        obtain ⟨U, hU⟩ : ∃ U, U = (w4.setCell ⟨w1.heap.size, 5, none⟩ (.bool (vy == 1))).setCell ⟨w.heap.size + 1, 1, none⟩ (.int .i64 3) := ⟨_, rfl⟩
        rw [← hU]
        have hq : U.cell? ⟨w.heap.size + 1, 1, none⟩ = some (.int .i64 3) := by rw [hU]; exact World.cell?_setCell_same _ _ _ HD4.out.eye.cells.1.2
        have hbU : Below (w.heap.size + 1) (w4.setCell ⟨w1.heap.size, 5, none⟩ (.bool (vy == 1))) U := by rw [hU]; exact (Below.refl _ _).setCell (by simp) _
        have HRU := Lib.hid (show U.heap[w.heap.size]? = some (.cells (lcell zeroL none 0 0 none 0) 111 (0, 0)) from (hbU.block _ (by omega)).trans HD4.out.res)
        have HBU := Lib.hid (HD4.out.bel.trans (hbU.mono (by omega)))
        clear hbU
        clear hU
        refine wp_region_any (by kernel_rfl) ?_
        refine wpAny_of_held (S := E15 (w.heap.size + 1) (3)) _ _ _ _ ?_
        have hS0 : E15 (w.heap.size + 1) (3) U.drew := ⟨hq⟩
        clear hq q0 q1 d0 d6 g1 f5 l5
        refine heldTake 0 124 (v := .agg (lcell zeroL none 0 0 none 0)) rfl rfl (by kernel_rfl) (by kernel_rfl) (by kernel_rfl) (fun _ _ _ h => h) hS0 (.inl ⟨by rfl, by intro w' hS; clear hS; go_simp; (try (all_goals rfl))⟩) ?_
        simp only [List.set_cons_zero, List.set_cons_succ]
        refine heldTake 1 125 rfl rfl (by kernel_rfl) (by kernel_rfl) (by kernel_rfl) (fun _ _ _ h => h) hS0 (.inl ⟨by rfl, by intro w' hS; obtain ⟨s1⟩ := hS; go_simp; (try rfl)⟩) ?_
        simp only [List.set_cons_zero, List.set_cons_succ]
        refine heldTake 2 126 rfl rfl (by kernel_rfl) (by kernel_rfl) (by kernel_rfl) (fun _ _ _ h => h) hS0 (.inl ⟨by rfl, by intro w' hS; obtain ⟨s1⟩ := hS; go_simp; (try rfl)⟩) ?_
        simp only [List.set_cons_zero, List.set_cons_succ]
        refine heldTake 3 127 rfl rfl (by kernel_rfl) (by kernel_rfl) (by kernel_rfl) (fun _ _ _ h => h) hS0 (.inl ⟨by rfl, by intro w' hS; obtain ⟨s1⟩ := hS; go_simp; (try rfl)⟩) ?_
        simp only [List.set_cons_zero, List.set_cons_succ]
        refine heldTake 4 128 rfl rfl (by kernel_rfl) (by kernel_rfl) (by kernel_rfl) (fun _ _ _ h => h) hS0 (.inl ⟨by rfl, by intro w' hS; obtain ⟨s1⟩ := hS; go_simp; (try rfl)⟩) ?_
        simp only [List.set_cons_zero, List.set_cons_succ]
        refine heldOne 5 (by kernel_rfl) rfl (by rfl) ?_
        refine wp_store_row 111 (.tmp 2) (.tmp 124) rfl w.heap.size (lcell zeroL none 0 0 none 0) rfl rfl 111 _ HRU.out infoLetter rfl (by simp [Value.oneCell']) ?_
        have hS1 : E15 (w.heap.size + 1) (3) (U.drew.setRow w.heap.size (lcell zeroL none 0 0 none 0)) := ⟨(World.cell?_of_block (a := ⟨w.heap.size + 1, 1, none⟩) (setRow_other _ _ _ _ (by show w.heap.size + 1 ≠ w.heap.size; omega))).trans hS0.e⟩
        refine ⟨hS1, ?_⟩
        refine heldTake 6 3 rfl rfl (by kernel_rfl) (by kernel_rfl) (by kernel_rfl) (fun _ _ _ h => h) hS1 (.inl ⟨by rfl, by intro w' hS; obtain ⟨s1⟩ := hS; go_simp; (try rfl)⟩) ?_
        simp only [List.set_cons_zero, List.set_cons_succ]
        refine wpAnyH_done (by kernel_rfl) ?_ _
        have HROWF := Lib.hid (setRow_heap U.drew w.heap.size _ (lcell zeroL none 0 0 none 0) 111 _ HRU.out)
        have HBF := Lib.hid (HBU.out.trans ((Below.refl _ U).drew.trans (below_setRow U.drew (lcell zeroL none 0 0 none 0) (Nat.le_refl _))))
        clear hS0 hS1
        go_wp2
        (try rw [Exit.noGoto_ret])
        refine bodyPost_ret (results_row_tmp rfl _ _ w.heap.size 111 _ (0, 0) _ rfl HROWF.out Try.underlying111 rfl infoLetter) rfl ⟨HBF.out, rfl⟩
    · have te : (s4.e == 0) = false := by simpa using he9
      have te2 : (s4.e != 0) = true := by simpa using he9
      have hO : O = (s4.e, none) := by rw [HOF.out]; simp [fin, he9]
      subst hO
      clear he9
      obtain ⟨⟨q0, q1⟩, ⟨d0, d6⟩, ff, fq⟩ := HC4.out.cells
      have d0 : (w4).cell? ⟨w1.heap.size, 0, none⟩ = some (.int .i64 2) := d0
      have f5 := ff 5
      have l5 := (letCells HC4.out.row).2.2.2.2.2.1
      have g1 := fq 1
      clear ff fq
      go_wp2_with fail
      obtain ⟨U, hU⟩ : ∃ U, U = w4.setCell ⟨w1.heap.size, 5, none⟩ (.bool (vy == 1)) := ⟨_, rfl⟩
      rw [← hU]
      have hq : U.cell? ⟨w.heap.size + 1, 1, none⟩ = some (.int .i64 s4.e) := by rw [hU]; exact HD4.out.eye.cells.1.2
      have HRU := Lib.hid (show U.heap[w.heap.size]? = some (.cells (lcell zeroL none 0 0 none 0) 111 (0, 0)) by rw [hU]; exact HD4.out.res)
      have HBU := Lib.hid (show Below w.heap.size w U by rw [hU]; exact HD4.out.bel)
      clear hU
      refine wp_region_any (by kernel_rfl) ?_
      refine wpAny_of_held (S := E15 (w.heap.size + 1) (s4.e)) _ _ _ _ ?_
      have hS0 : E15 (w.heap.size + 1) (s4.e) U.drew := ⟨hq⟩
      clear hq q0 q1 d0 d6 g1 f5 l5
      refine heldTake 0 124 (v := .agg (lcell zeroL none 0 0 none 0)) rfl rfl (by kernel_rfl) (by kernel_rfl) (by kernel_rfl) (fun _ _ _ h => h) hS0 (.inl ⟨by rfl, by intro w' hS; clear hS; go_simp; (try (all_goals rfl))⟩) ?_
      simp only [List.set_cons_zero, List.set_cons_succ]
      refine heldTake 1 125 rfl rfl (by kernel_rfl) (by kernel_rfl) (by kernel_rfl) (fun _ _ _ h => h) hS0 (.inl ⟨by rfl, by intro w' hS; obtain ⟨s1⟩ := hS; go_simp; (try rfl)⟩) ?_
      simp only [List.set_cons_zero, List.set_cons_succ]
      refine heldTake 2 126 rfl rfl (by kernel_rfl) (by kernel_rfl) (by kernel_rfl) (fun _ _ _ h => h) hS0 (.inl ⟨by rfl, by intro w' hS; obtain ⟨s1⟩ := hS; go_simp; (try rfl)⟩) ?_
      simp only [List.set_cons_zero, List.set_cons_succ]
      refine heldTake 3 127 rfl rfl (by kernel_rfl) (by kernel_rfl) (by kernel_rfl) (fun _ _ _ h => h) hS0 (.inl ⟨by rfl, by intro w' hS; obtain ⟨s1⟩ := hS; go_simp; (try rfl)⟩) ?_
      simp only [List.set_cons_zero, List.set_cons_succ]
      refine heldTake 4 128 rfl rfl (by kernel_rfl) (by kernel_rfl) (by kernel_rfl) (fun _ _ _ h => h) hS0 (.inl ⟨by rfl, by intro w' hS; obtain ⟨s1⟩ := hS; go_simp; (try rfl)⟩) ?_
      simp only [List.set_cons_zero, List.set_cons_succ]
      refine heldOne 5 (by kernel_rfl) rfl (by rfl) ?_
      refine wp_store_row 111 (.tmp 2) (.tmp 124) rfl w.heap.size (lcell zeroL none 0 0 none 0) rfl rfl 111 _ HRU.out infoLetter rfl (by simp [Value.oneCell']) ?_
      have hS1 : E15 (w.heap.size + 1) (s4.e) (U.drew.setRow w.heap.size (lcell zeroL none 0 0 none 0)) := ⟨(World.cell?_of_block (a := ⟨w.heap.size + 1, 1, none⟩) (setRow_other _ _ _ _ (by show w.heap.size + 1 ≠ w.heap.size; omega))).trans hS0.e⟩
      refine ⟨hS1, ?_⟩
      refine heldTake 6 3 rfl rfl (by kernel_rfl) (by kernel_rfl) (by kernel_rfl) (fun _ _ _ h => h) hS1 (.inl ⟨by rfl, by intro w' hS; obtain ⟨s1⟩ := hS; go_simp; (try rfl)⟩) ?_
      simp only [List.set_cons_zero, List.set_cons_succ]
      refine wpAnyH_done (by kernel_rfl) ?_ _
      have HROWF := Lib.hid (setRow_heap U.drew w.heap.size _ (lcell zeroL none 0 0 none 0) 111 _ HRU.out)
      have HBF := Lib.hid (HBU.out.trans ((Below.refl _ U).drew.trans (below_setRow U.drew (lcell zeroL none 0 0 none 0) (Nat.le_refl _))))
      clear hS0 hS1
      go_wp2
      (try rw [Exit.noGoto_ret])
      refine bodyPost_ret (results_row_tmp rfl _ _ w.heap.size 111 _ (0, 0) _ rfl HROWF.out Try.underlying111 rfl infoLetter) rfl ⟨HBF.out, rfl⟩
  · have hz := hkz (by decide)
    have tz : (s1.e == 0) = true := by simpa using hz
    clear hz
    clear hkz
    obtain ⟨⟨q0, q1⟩, ⟨d0, d6⟩, ff, fq⟩ := HC2.out.cells
    have d0 : (w2).cell? ⟨w1.heap.size, 0, none⟩ = some (.int .i64 3) := d0
    clear ff fq
    rw [show w2 = w1.alloc (.cells #[.int .i64 3, .int .i64 0, .int .i64 0, .int .i64 0, .int .i64 0, .bool false, .slice none 0 0, .slice none 0 0] 111) from HW2.out] at HC2 q0 q1 d0 d6
    obtain ⟨t, s3, hp3⟩ : ∃ n s, (n, s) = askN 1099511627776 s1 := ⟨_, _, rfl⟩
    have HP3 := Lib.hid hp3
    have hm3 : t ≤ 1099511627776 := by have := askN_le 1099511627776 s1; rw [← hp3] at this; exact this
    clear hp3
    go_wp2_with fail
    clear q0 q1 d0 d6
    refine (r15EyeNum 1099511627776 (by omega) (w.heap.size + 1) w.heap.size s1 a1 c1 _ HC2.out.eye (by omega)).mono ?_
    rintro e w3 ⟨rfl, hg3, a3, c3, he3⟩
    rw [show (askN 1099511627776 s1).2 = s3 by rw [← HP3.out]] at he3
    rw [show (askN 1099511627776 s1).1 = t by rw [← HP3.out]]
    have HC3 := Lib.hid (HC2.out.step hg3 he3)
    have hlt3 := HC3.out.lt
    have HD3 := Lib.hid (HC3.out.set 1 (.int .i64 t) (v' := ⟨3, t, 0, 0, 0, false, [], []⟩) rfl rfl HC3.out.b)
    clear hg3 he3
    obtain ⟨⟨q0, q1⟩, ⟨d0, d6⟩, ff, fq⟩ := HC3.out.cells
    have d0 : (w3).cell? ⟨w1.heap.size, 0, none⟩ = some (.int .i64 3) := d0
    have f1 := ff 1
    have l1 := (letCells HC3.out.row).2.1
    clear ff fq
    obtain ⟨va, s4, hp4⟩ : ∃ n s, (n, s) = askN 1099511627776 s3 := ⟨_, _, rfl⟩
    have HP4 := Lib.hid hp4
    have hm4 : va ≤ 1099511627776 := by have := askN_le 1099511627776 s3; rw [← hp4] at this; exact this
    clear hp4
    go_wp2_with fail
    clear q0 q1 d0 d6 f1 l1
    obtain ⟨x4, hx4⟩ : ∃ W, W = w3.setCell ⟨w1.heap.size, 1, none⟩ (.int .i64 t) := ⟨_, rfl⟩
    rw [← hx4] at HD3 ⊢
    clear hx4
    refine (r15EyeNum 1099511627776 (by omega) (w.heap.size + 1) w.heap.size s3 a3 c3 _ HD3.out.eye (by omega)).mono ?_
    rintro e w4 ⟨rfl, hg4, a4, c4, he4⟩
    rw [show (askN 1099511627776 s3).2 = s4 by rw [← HP4.out]] at he4
    rw [show (askN 1099511627776 s3).1 = va by rw [← HP4.out]]
    have HC4 := Lib.hid (HD3.out.step hg4 he4)
    have hlt4 := HC4.out.lt
    have HD4 := Lib.hid (HC4.out.set 2 (.int .i64 va) (v' := ⟨3, t, va, 0, 0, false, [], []⟩) rfl rfl HC4.out.b)
    clear hg4 he4
    obtain ⟨⟨q0, q1⟩, ⟨d0, d6⟩, ff, fq⟩ := HC4.out.cells
    have d0 : (w4).cell? ⟨w1.heap.size, 0, none⟩ = some (.int .i64 3) := d0
    have f2 := ff 2
    have l2 := (letCells HC4.out.row).2.2.1
    clear ff fq
    obtain ⟨vu, s5, hp5⟩ : ∃ n s, (n, s) = askN 1099511627776 s4 := ⟨_, _, rfl⟩
    have HP5 := Lib.hid hp5
    have hm5 : vu ≤ 1099511627776 := by have := askN_le 1099511627776 s4; rw [← hp5] at this; exact this
    clear hp5
    go_wp2_with fail
    clear q0 q1 d0 d6 f2 l2
    obtain ⟨x5, hx5⟩ : ∃ W, W = w4.setCell ⟨w1.heap.size, 2, none⟩ (.int .i64 va) := ⟨_, rfl⟩
    rw [← hx5] at HD4 ⊢
    clear hx5
    refine (r15EyeNum 1099511627776 (by omega) (w.heap.size + 1) w.heap.size s4 a4 c4 _ HD4.out.eye (by omega)).mono ?_
    rintro e w5 ⟨rfl, hg5, a5, c5, he5⟩
    rw [show (askN 1099511627776 s4).2 = s5 by rw [← HP5.out]] at he5
    rw [show (askN 1099511627776 s4).1 = vu by rw [← HP5.out]]
    have HC5 := Lib.hid (HD4.out.step hg5 he5)
    have hlt5 := HC5.out.lt
    have HD5 := Lib.hid (HC5.out.set 3 (.int .i64 vu) (v' := ⟨3, t, va, vu, 0, false, [], []⟩) rfl rfl HC5.out.b)
    clear hg5 he5
    obtain ⟨⟨q0, q1⟩, ⟨d0, d6⟩, ff, fq⟩ := HC5.out.cells
    have d0 : (w5).cell? ⟨w1.heap.size, 0, none⟩ = some (.int .i64 3) := d0
    have f3 := ff 3
    have l3 := (letCells HC5.out.row).2.2.2.1
    clear ff fq
    obtain ⟨vo, s6, hp6⟩ : ∃ n s, (n, s) = askN 1099511627776 s5 := ⟨_, _, rfl⟩
    have HP6 := Lib.hid hp6
    have hm6 : vo ≤ 1099511627776 := by have := askN_le 1099511627776 s5; rw [← hp6] at this; exact this
    clear hp6
    go_wp2_with fail
    clear q0 q1 d0 d6 f3 l3
    obtain ⟨x6, hx6⟩ : ∃ W, W = w5.setCell ⟨w1.heap.size, 3, none⟩ (.int .i64 vu) := ⟨_, rfl⟩
    rw [← hx6] at HD5 ⊢
    clear hx6
    refine (r15EyeNum 1099511627776 (by omega) (w.heap.size + 1) w.heap.size s5 a5 c5 _ HD5.out.eye (by omega)).mono ?_
    rintro e w6 ⟨rfl, hg6, a6, c6, he6⟩
    rw [show (askN 1099511627776 s5).2 = s6 by rw [← HP6.out]] at he6
    rw [show (askN 1099511627776 s5).1 = vo by rw [← HP6.out]]
    have HC6 := Lib.hid (HD5.out.step hg6 he6)
    have hlt6 := HC6.out.lt
    have HD6 := Lib.hid (HC6.out.set 4 (.int .i64 vo) (v' := ⟨3, t, va, vu, vo, false, [], []⟩) rfl rfl HC6.out.b)
    clear hg6 he6
    obtain ⟨⟨q0, q1⟩, ⟨d0, d6⟩, ff, fq⟩ := HC6.out.cells
    have d0 : (w6).cell? ⟨w1.heap.size, 0, none⟩ = some (.int .i64 3) := d0
    have f4 := ff 4
    have l4 := (letCells HC6.out.row).2.2.2.2.1
    clear ff fq
    obtain ⟨vn, s7, hp7⟩ : ∃ n s, (n, s) = askN 16 s6 := ⟨_, _, rfl⟩
    have HP7 := Lib.hid hp7
    have hm7 : vn ≤ 16 := by have := askN_le 16 s6; rw [← hp7] at this; exact this
    clear hp7
    go_wp2_with fail
    clear q0 q1 d0 d6 f4 l4
    obtain ⟨x7, hx7⟩ : ∃ W, W = w6.setCell ⟨w1.heap.size, 4, none⟩ (.int .i64 vo) := ⟨_, rfl⟩
    rw [← hx7] at HD6 ⊢
    clear hx7
    refine (r15EyeNum 16 (by omega) (w.heap.size + 1) w.heap.size s6 a6 c6 _ HD6.out.eye (by omega)).mono ?_
    rintro e w7 ⟨rfl, hg7, a7, c7, he7⟩
    rw [show (askN 16 s6).2 = s7 by rw [← HP7.out]] at he7
    rw [show (askN 16 s6).1 = vn by rw [← HP7.out]]
    have HC7 := Lib.hid (HD6.out.step hg7 he7)
    have hlt7 := HC7.out.lt
    clear hg7 he7
    obtain ⟨⟨q0, q1⟩, ⟨d0, d6⟩, ff, fq⟩ := HC7.out.cells
    have d0 : (w7).cell? ⟨w1.heap.size, 0, none⟩ = some (.int .i64 3) := d0
    clear ff fq
    go_wp2_with fail
    clear q0 q1 d0 d6
    obtain ⟨wo, rfl⟩ : ∃ wo : World, wo = w7 := ⟨_, rfl⟩
    go_loopw [7] (fun iv wr => ∃ (j : Nat) (s : RS) (aa : Option Addr) (cc : Nat) (ia : Option Addr) (ic : Nat) (ms : List MItem), iv = .int .i64 j ∧ j ≤ vn ∧ ms.length = j ∧ loopR vn s7 [] = loopR (vn - j) s (ms.map MItem.it) ∧ Rd15 w w1.heap.size wr s aa cc ⟨3, t, va, vu, vo, false, ms.map MItem.it, []⟩ ia ic ms none 0) (fun iv _ => vn - (intOf iv).toNat)
    case atStart => exact ⟨0, s7, a7, c7, none, 0, [], rfl, by omega, rfl, rfl, HC7.out⟩
    case round =>
      obtain ⟨j, s, aa, cc, ia, ic, ms, rfl, hjn, hml, hlp, hrd⟩ := hrel
      have HLP := Lib.hid hlp
      have HRD := Lib.hid hrd
      have hglt := hrd.lt
      have hglo := hrd.lo
      have HML := Lib.hid hml
      have hm16 : ms.length ≤ 16 := by omega
      clear hlp hrd hml
      by_cases hj : j < vn
      · have tk : decide ((j : Int) < (vn : Int)) = true := by simpa using hj
        by_cases he9 : s.e = 0
        · have te : (s.e == 0) = true := by simpa using he9
          obtain ⟨z, s8, hp8⟩ : ∃ n s', (n, s') = askN 1099511627776 s := ⟨_, _, rfl⟩
          have HP8 := Lib.hid hp8
          have hm8 : z ≤ 1099511627776 := by have := askN_le 1099511627776 s; rw [← hp8] at this; exact this
          obtain ⟨tx, s9, hp9⟩ : ∃ n s', (n, s') = askT 8192 s8 := ⟨_, _, rfl⟩
          have HP9 := Lib.hid hp9
          have hm9 : tx.length ≤ 8192 := by have := askT_le 8192 s8; rw [← hp9] at this; exact this
          have HLN := Lib.hid (show loopR vn s7 [] = loopR (vn - (j + 1)) s9 (ms.map MItem.it ++ [((z : Int), tx)]) by
            rw [HLP.out, show vn - j = (vn - (j + 1)) + 1 by omega, loopR_step _ _ he9]
            simp only [← HP8.out, ← HP9.out])
          clear hp8 hp9 he9
          obtain ⟨⟨q0, q1⟩, ⟨d0, d6⟩, -, -⟩ := HRD.out.cells
          go_wp2_with fail
          clear q0 q1 d0 d6
          refine (r15EyeNum 1099511627776 (by omega) (w.heap.size + 1) w.heap.size s aa cc _ HRD.out.eye (by omega)).mono ?_
          rintro e w8 ⟨rfl, hg8, a8, c8, he8⟩
          rw [show (askN 1099511627776 s).2 = s8 by rw [← HP8.out]] at he8
          rw [show (askN 1099511627776 s).1 = z by rw [← HP8.out]]
          have HC8 := Lib.hid (HRD.out.step hg8 he8)
          clear hg8 he8
          go_wp2_with fail
          refine wp_region_any (by kernel_rfl) ?_
          refine wpAny_of_held (S := Z15 w1.heap.size) _ _ _ _ ?_
          have HDR := Lib.hid (HC8.out.below ((Below.refl _ w8).drew))
          have hS0 : Z15 w1.heap.size w8.drew := ⟨HDR.out.lt⟩
          refine heldTake 0 88 rfl rfl (by kernel_rfl) (by kernel_rfl) (by kernel_rfl) (fun _ _ _ h => h) hS0 (.inl ⟨by rfl, by intro w' hS; obtain ⟨s1⟩ := hS; go_simp; (try rfl)⟩) ?_
          simp only [List.set_cons_zero, List.set_cons_succ]
          refine heldTake 2 90 rfl rfl (by kernel_rfl) (by kernel_rfl) (by kernel_rfl) (fun _ _ _ h => h) hS0 (.inl ⟨by rfl, by intro w' hS; obtain ⟨s1⟩ := hS; go_simp; (try rfl)⟩) ?_
          simp only [List.set_cons_zero, List.set_cons_succ]
          refine heldTake 3 91 rfl rfl (by kernel_rfl) (by kernel_rfl) (by kernel_rfl) (fun _ _ _ h => h) hS0 (.inl ⟨by rfl, by intro w' hS; obtain ⟨s1⟩ := hS; go_simp; (try rfl)⟩) ?_
          simp only [List.set_cons_zero, List.set_cons_succ]
          have HS0 := Lib.hid hS0
          clear hS0
          apply way3 (fun U n a4 c4 => Way15 w w1.heap.size U n a4 c4 z tx s9 t va vu vo ia ic ms)
          intro hway
          refine wpAnyH_two (i := 1) (j := 4) (by kernel_rfl) (wpOp_wp rfl (by rfl) ?_) (wpOp_wp rfl (by rfl) ?_)
          · have p6 := HDR.out.cells.2.1.2
            go_simp
            clear p6
            refine ⟨HS0.out, ?_⟩
            refine heldOne 4 (by kernel_rfl) rfl (by rfl) ?_
            go_simp
            refine (r15EyeText 8192 (by omega) (w.heap.size + 1) w.heap.size s8 a8 c8 _ HDR.out.eye (by omega)).mono ?_
            rintro e w9 ⟨a4, c4, rfl, hbt, hg9, a9, c9, he9⟩
            rw [show (askT 8192 s8).2 = s9 by rw [← HP9.out]] at he9
            rw [show (askT 8192 s8).1 = tx by rw [← HP9.out]] at hbt ⊢
            have hc9 := HDR.out.step hg9 he9
            have hS9 : Z15 w1.heap.size w9 := ⟨hc9.lt⟩
            obtain ⟨U, hU⟩ : ∃ U, U = w9.alloc (.cells #[.int .i64 z, .slice a4 tx.length c4] 45) := ⟨_, rfl⟩
            have hbU : Below w9.heap.size w9 U := by rw [hU]; exact (Below.refl _ _).alloc (Nat.le_refl _) _
            have hcU := hc9.below hbU
            have hSU : Z15 w1.heap.size U := ⟨hcU.lt⟩
            have hWU : Way15 w w1.heap.size U w9.heap.size a4 c4 z tx s9 t va vu vo ia ic ms := by
              refine ⟨⟨a9, c9, hcU⟩, ?_, hbt.below hbU (by have := hc9.lt; omega)⟩
              rw [show U.heap.size = w9.heap.size + 1 by rw [hU]; simp, hU]
              exact slAt_item w9 #[.int .i64 z, .slice a4 tx.length c4] 45 2 rfl
            have HU := Lib.hid hU
            have HWU := Lib.hid hWU
            have HCU := Lib.hid hcU
            have HC9 := Lib.hid hc9
            have HSU := Lib.hid hSU
            clear hbt hg9 he9 hc9 hU hbU hcU hWU hSU
            refine ⟨hS9, ?_⟩
            refine heldTake 5 93 (v := .agg #[.int .i64 z, .slice a4 tx.length c4]) rfl rfl (by kernel_rfl) (by kernel_rfl) (by kernel_rfl) (fun _ _ _ h => h) hS9 (.inl ⟨by rfl, by intro w' hS; clear hS; go_simp; (try (all_goals rfl))⟩) ?_
            simp only [List.set_cons_zero, List.set_cons_succ]
            have HS9 := Lib.hid hS9
            clear hS9
            refine heldOne 6 (by kernel_rfl) rfl (by rfl) ?_
            go_simp
            rw [← HU.out]
            refine ⟨HSU.out, ?_⟩
            have hwu := HWU.out
            generalize w9.heap.size = n at hwu ⊢
            exact hway U n a4 c4 hwu
          · go_simp
            refine (r15EyeText 8192 (by omega) (w.heap.size + 1) w.heap.size s8 a8 c8 _ HDR.out.eye (by omega)).mono ?_
            rintro e w9 ⟨a4, c4, rfl, hbt, hg9, a9, c9, he9⟩
            rw [show (askT 8192 s8).2 = s9 by rw [← HP9.out]] at he9
            rw [show (askT 8192 s8).1 = tx by rw [← HP9.out]] at hbt ⊢
            have hc9 := HDR.out.step hg9 he9
            have hS9 : Z15 w1.heap.size w9 := ⟨hc9.lt⟩
            obtain ⟨U, hU⟩ : ∃ U, U = w9.alloc (.cells #[.int .i64 z, .slice a4 tx.length c4] 45) := ⟨_, rfl⟩
            have hbU : Below w9.heap.size w9 U := by rw [hU]; exact (Below.refl _ _).alloc (Nat.le_refl _) _
            have hcU := hc9.below hbU
            have hSU : Z15 w1.heap.size U := ⟨hcU.lt⟩
            have hWU : Way15 w w1.heap.size U w9.heap.size a4 c4 z tx s9 t va vu vo ia ic ms := by
              refine ⟨⟨a9, c9, hcU⟩, ?_, hbt.below hbU (by have := hc9.lt; omega)⟩
              rw [show U.heap.size = w9.heap.size + 1 by rw [hU]; simp, hU]
              exact slAt_item w9 #[.int .i64 z, .slice a4 tx.length c4] 45 2 rfl
            have HU := Lib.hid hU
            have HWU := Lib.hid hWU
            have HCU := Lib.hid hcU
            have HC9 := Lib.hid hc9
            have HSU := Lib.hid hSU
            clear hbt hg9 he9 hc9 hU hbU hcU hWU hSU
            refine ⟨hS9, ?_⟩
            refine heldTake 5 93 (v := .agg #[.int .i64 z, .slice a4 tx.length c4]) rfl rfl (by kernel_rfl) (by kernel_rfl) (by kernel_rfl) (fun _ _ _ h => h) hS9 (.inl ⟨by rfl, by intro w' hS; clear hS; go_simp; (try (all_goals rfl))⟩) ?_
            simp only [List.set_cons_zero, List.set_cons_succ]
            have HS9 := Lib.hid hS9
            clear hS9
            refine wpAnyH_two (i := 1) (j := 6) (by kernel_rfl) (wpOp_wp rfl (by rfl) ?_) (wpOp_wp rfl (by rfl) ?_)
            · have p6 := HC9.out.cells.2.1.2
              go_simp
              clear p6
              refine ⟨HS9.out, ?_⟩
              refine heldOne 6 (by kernel_rfl) rfl (by rfl) ?_
              go_simp
              rw [← HU.out]
              refine ⟨HSU.out, ?_⟩
              have hwu := HWU.out
              generalize w9.heap.size = n at hwu ⊢
              exact hway U n a4 c4 hwu
            · go_simp
              rw [← HU.out]
              refine ⟨HSU.out, ?_⟩
              refine heldOne 1 (by kernel_rfl) rfl (by rfl) ?_
              have p6 := HCU.out.cells.2.1.2
              go_simp
              clear p6
              refine ⟨HSU.out, ?_⟩
              have hwu := HWU.out
              generalize w9.heap.size = n at hwu ⊢
              exact hway U n a4 c4 hwu
          intro U n a4 c4 hwu
          obtain ⟨⟨aU, cU, hrU⟩, hitU, hbsU⟩ := hwu
          have HRU := Lib.hid hrU
          have HITU := Lib.hid hitU
          have HBSU := Lib.hid hbsU
          have hUlt := hrU.lt
          clear hrU hitU hbsU
          refine heldOne 7 (by kernel_rfl) rfl (by rfl) ?_
          refine wp_append_sl U (.tmp 89) (.tmp 94) 49 rfl (w1.heap.size + 1) 45 j0 (.agg #[.int .i64 0, .slice none 0 0]) 2 32 Try.underlying49 gi gz0 gz1 gz2 rfl (by decide) (.slice ia ms.length ic) ms.length (cellsM ms) rfl HRU.out.own U.heap.size (some ⟨n, 0, none⟩) 1 1 [.int .i64 z, .slice a4 tx.length c4] rfl HITU.out (by intro u hu; simp at hu; rcases hu with rfl | rfl <;> rfl) (by unfold maxLen; omega) (by omega) (by omega) ?_
          intro a11 c11 W11 o11 g11 _
          have hs11 := g11.size
          have hb11 : Below w1.heap.size U W11 := (Below.refl _ U).grown g11 (by omega) (fun k hk => by have := (own_lt HRU.out.own hk).1; omega)
          have hr11 : W11.heap[w1.heap.size]? = some (.cells (lcell ⟨3, t, va, vu, vo, false, ms.map MItem.it, []⟩ ia ms.length ic none 0) 111 (0, 0)) := (g11.block w1.heap.size hUlt (fun e => by have := (own_lt HRU.out.own e.symm).1; omega)).trans HRU.out.row
          have p2 : W11.cell? ⟨w1.heap.size, 6, none⟩ = some (.slice ia ms.length ic) := cell_of_row W11 w1.heap.size 6 _ _ _ hr11
          have f2 : W11.frozen? ⟨w1.heap.size, 6, none⟩ = false := frozen_of_row _ _ _ _ _ hr11
          have hS11 : Z15 w1.heap.size W11 := ⟨by omega⟩
          refine ⟨hS11, ?_⟩
          go_simp
          refine heldTake 8 96 rfl rfl (by kernel_rfl) (by kernel_rfl) (by kernel_rfl) (fun _ _ _ h => h) hS11 (.inl ⟨by rfl, by intro w' hS; obtain ⟨s1⟩ := hS; go_simp; (try rfl)⟩) ?_
          simp only [List.set_cons_zero, List.set_cons_succ]
          refine heldOne 9 (by kernel_rfl) rfl (by rfl) ?_
          refine wp_store_cell 49 (.tmp 96) (.tmp 95) rfl w1.heap.size 6 (.slice a11 (ms.length + 1) c11) _ rfl rfl rfl infoItems1 p2 f2 ?_
          obtain ⟨W12, hW12⟩ : ∃ W12, W12 = W11.setCell ⟨w1.heap.size, 6, none⟩ (.slice a11 (ms.length + 1) c11) := ⟨_, rfl⟩
          rw [← hW12]
          have hb12 : Below w1.heap.size U W12 := hb11.trans (by rw [hW12]; exact (Below.refl _ _).setCell (by simp) _)
          have h9 := heap_setCell_same W11 w1.heap.size 6 _ _ (.slice a11 (ms.length + 1) c11) hr11
          rw [← hW12] at h9
          have HC12 := Lib.hid (show Rd15 w w1.heap.size W12 s9 aU cU ⟨3, t, va, vu, vo, false, (ms ++ [(⟨z, a4, tx.length, c4, tx⟩ : MItem)]).map MItem.it, []⟩ a11 c11 (ms ++ [(⟨z, a4, tx.length, c4, tx⟩ : MItem)]) none 0 from by
            refine HRU.out.turn hb12 ?_ ?_ rfl (fun m hm => ?_) (BsAt.zero _ _ _ _ (by simp [maxLen]) (fun _ => rfl))
            · rw [h9]; simp
            · rw [cellsM_append, show (ms ++ [(⟨z, a4, tx.length, c4, tx⟩ : MItem)]).length = ms.length + 1 by simp]
              exact own_mv o11 fun k cur hk _ => by rw [hW12]; exact Below.heap_setCell _ _ _ k (by have := (own_lt o11 hk).1; show k ≠ w1.heap.size; omega)
            · simp only [List.mem_append, List.mem_singleton] at hm
              rcases hm with hm | rfl
              · exact (HRU.out.bs m hm).below hb12 (by omega)
              · exact HBSU.out.below hb12 (by omega))
          have hS12 : Z15 w1.heap.size W12 := ⟨HC12.out.lt⟩
          refine ⟨hS12, wpAnyH_done (by kernel_rfl) ?_ _⟩
          have hml2 : (ms ++ [(⟨z, a4, tx.length, c4, tx⟩ : MItem)]).length = j + 1 := by simp [HML.out]
          have HML2 := Lib.hid hml2
          have HLN2 := Lib.hid (show loopR vn s7 [] = loopR (vn - (j + 1)) s9 ((ms ++ [(⟨z, a4, tx.length, c4, tx⟩ : MItem)]).map MItem.it) by rw [HLN.out]; simp)
          clear hS11 hS12 p2 f2 hr11 h9 hW12 hb11 hb12 o11 g11 hml2
          go_wp2
          go_roundw
          case rel => exact ⟨j + 1, s9, aU, cU, a11, c11, ms ++ [⟨z, a4, tx.length, c4, tx⟩], by go_num, hj, HML2.out, HLN2.out, HC12.out⟩
          case measure => simp [intOf]; omega
        · have HOF := Lib.hid (show O = fin ⟨3, t, va, vu, vo, false, ms.map MItem.it, []⟩ s by rw [HO.out, if_neg (by simp), ← HP3.out, fink3]; simp only [fin3, ← HP4.out, ← HP5.out, ← HP6.out, ← HP7.out]; rw [HLP.out]; rw [loopR_bad _ _ he9])
          have te : (s.e == 0) = false := by simpa using he9
          have te2 : (s.e != 0) = true := by simpa using he9
          have hO : O = (s.e, none) := by rw [HOF.out]; simp [fin, he9]
          subst hO
          clear he9
          obtain ⟨⟨q0, q1⟩, ⟨d0, d6⟩, ff, fq⟩ := HRD.out.cells
          have d0 : (wr).cell? ⟨w1.heap.size, 0, none⟩ = some (.int .i64 3) := d0
          have g1 := fq 1
          clear ff fq
          go_wp2_with fail
          obtain ⟨U, hU⟩ : ∃ U, U = wr := ⟨_, rfl⟩
          rw [show wr = U from hU.symm]
          have hq : U.cell? ⟨w.heap.size + 1, 1, none⟩ = some (.int .i64 s.e) := by rw [hU]; exact HRD.out.eye.cells.1.2
          have HRU := Lib.hid (show U.heap[w.heap.size]? = some (.cells (lcell zeroL none 0 0 none 0) 111 (0, 0)) by rw [hU]; exact HRD.out.res)
          have HBU := Lib.hid (show Below w.heap.size w U by rw [hU]; exact HRD.out.bel)
          clear hU
          refine wp_region_any (by kernel_rfl) ?_
          refine wpAny_of_held (S := E15 (w.heap.size + 1) (s.e)) _ _ _ _ ?_
          have hS0 : E15 (w.heap.size + 1) (s.e) U.drew := ⟨hq⟩
          clear hq q0 q1 d0 d6 g1
          refine heldTake 0 124 (v := .agg (lcell zeroL none 0 0 none 0)) rfl rfl (by kernel_rfl) (by kernel_rfl) (by kernel_rfl) (fun _ _ _ h => h) hS0 (.inl ⟨by rfl, by intro w' hS; clear hS; go_simp; (try (all_goals rfl))⟩) ?_
          simp only [List.set_cons_zero, List.set_cons_succ]
          refine heldTake 1 125 rfl rfl (by kernel_rfl) (by kernel_rfl) (by kernel_rfl) (fun _ _ _ h => h) hS0 (.inl ⟨by rfl, by intro w' hS; obtain ⟨s1⟩ := hS; go_simp; (try rfl)⟩) ?_
          simp only [List.set_cons_zero, List.set_cons_succ]
          refine heldTake 2 126 rfl rfl (by kernel_rfl) (by kernel_rfl) (by kernel_rfl) (fun _ _ _ h => h) hS0 (.inl ⟨by rfl, by intro w' hS; obtain ⟨s1⟩ := hS; go_simp; (try rfl)⟩) ?_
          simp only [List.set_cons_zero, List.set_cons_succ]
          refine heldTake 3 127 rfl rfl (by kernel_rfl) (by kernel_rfl) (by kernel_rfl) (fun _ _ _ h => h) hS0 (.inl ⟨by rfl, by intro w' hS; obtain ⟨s1⟩ := hS; go_simp; (try rfl)⟩) ?_
          simp only [List.set_cons_zero, List.set_cons_succ]
          refine heldTake 4 128 rfl rfl (by kernel_rfl) (by kernel_rfl) (by kernel_rfl) (fun _ _ _ h => h) hS0 (.inl ⟨by rfl, by intro w' hS; obtain ⟨s1⟩ := hS; go_simp; (try rfl)⟩) ?_
          simp only [List.set_cons_zero, List.set_cons_succ]
          refine heldOne 5 (by kernel_rfl) rfl (by rfl) ?_
          refine wp_store_row 111 (.tmp 2) (.tmp 124) rfl w.heap.size (lcell zeroL none 0 0 none 0) rfl rfl 111 _ HRU.out infoLetter rfl (by simp [Value.oneCell']) ?_
          have hS1 : E15 (w.heap.size + 1) (s.e) (U.drew.setRow w.heap.size (lcell zeroL none 0 0 none 0)) := ⟨(World.cell?_of_block (a := ⟨w.heap.size + 1, 1, none⟩) (setRow_other _ _ _ _ (by show w.heap.size + 1 ≠ w.heap.size; omega))).trans hS0.e⟩
          refine ⟨hS1, ?_⟩
          refine heldTake 6 3 rfl rfl (by kernel_rfl) (by kernel_rfl) (by kernel_rfl) (fun _ _ _ h => h) hS1 (.inl ⟨by rfl, by intro w' hS; obtain ⟨s1⟩ := hS; go_simp; (try rfl)⟩) ?_
          simp only [List.set_cons_zero, List.set_cons_succ]
          refine wpAnyH_done (by kernel_rfl) ?_ _
          have HROWF := Lib.hid (setRow_heap U.drew w.heap.size _ (lcell zeroL none 0 0 none 0) 111 _ HRU.out)
          have HBF := Lib.hid (HBU.out.trans ((Below.refl _ U).drew.trans (below_setRow U.drew (lcell zeroL none 0 0 none 0) (Nat.le_refl _))))
          clear hS0 hS1
          go_wp2
          (try rw [Exit.noGoto_ret])
          refine bodyPost_ret (results_row_tmp rfl _ _ w.heap.size 111 _ (0, 0) _ rfl HROWF.out Try.underlying111 rfl infoLetter) rfl ⟨HBF.out, rfl⟩
      · have tk : decide ((j : Int) < (vn : Int)) = false := by simpa using hj
        have hje : j = vn := by omega
        subst hje
        have HOF := Lib.hid (show O = fin ⟨3, t, va, vu, vo, false, ms.map MItem.it, []⟩ s by rw [HO.out, if_neg (by simp), ← HP3.out, fink3]; simp only [fin3, ← HP4.out, ← HP5.out, ← HP6.out, ← HP7.out]; rw [HLP.out]; rw [Nat.sub_self]; rfl)
        clear hj
        have q0 := True.intro; have q1 := True.intro; have d0 := True.intro; have d6 := True.intro
        clear q0 q1 d0 d6
        by_cases he9 : s.e = 0
        · have te : (s.e == 0) = true := by simpa using he9
          have te2 : (s.e != 0) = false := by simp [he9]
          by_cases hl9 : s.l = []
          · have tl : decide (0 < s.l.length) = false := by rw [hl9]; rfl
            have hO : O = (0, some ⟨3, t, va, vu, vo, false, ms.map MItem.it, []⟩) := by rw [HOF.out]; simp [fin, he9, hl9]
            subst hO
            clear he9 hl9
            obtain ⟨⟨q0, q1⟩, ⟨d0, d6⟩, ff, fq⟩ := HRD.out.cells
            have d0 : (wr).cell? ⟨w1.heap.size, 0, none⟩ = some (.int .i64 3) := d0
            have g1 := fq 1
            clear ff fq
            obtain ⟨-, c1, c2, c3, c4, c5, c6, c7⟩ := letCells HRD.out.row
            go_wp2_with (refine wpList_store_abs rfl 111 (.tmp 2) (.tmp 129) rfl w.heap.size _ rfl rfl 111 _ HRD.out.res infoLetter rfl (by simp [Value.oneCell']) ?_; intro W9 hrow9 hoth9 hb9 hs9)
            refine bodyPost_ret (results_row_tmp rfl _ _ w.heap.size 111 _ (0, 0) _ rfl hrow9 Try.underlying111 rfl infoLetter) rfl ?_
            exact ⟨HRD.out.bel.trans hb9, ia, ic, ms, none, 0, rfl, HRD.out.letAt hb9 hoth9⟩
          · have tl : decide ((0 : Int) < (s.l.length : Int)) = true := by
              have h9 : 0 < s.l.length := List.length_pos_iff.2 hl9
              simp; omega
            have tl2 : decide (0 < s.l.length) = true := by
              have h9 : 0 < s.l.length := List.length_pos_iff.2 hl9
              simp; omega
            have hO : O = (3, none) := by rw [HOF.out]; simp [fin, he9, hl9]
            subst hO
            clear he9 hl9
            obtain ⟨⟨q0, q1⟩, ⟨d0, d6⟩, ff, fq⟩ := HRD.out.cells
            have d0 : (wr).cell? ⟨w1.heap.size, 0, none⟩ = some (.int .i64 3) := d0
            have g1 := fq 1
            clear ff fq
            go_wp2_with fail
            obtain ⟨U, hU⟩ : ∃ U, U = (wr).setCell ⟨w.heap.size + 1, 1, none⟩ (.int .i64 3) := ⟨_, rfl⟩
            rw [← hU]
            have hq : U.cell? ⟨w.heap.size + 1, 1, none⟩ = some (.int .i64 3) := by rw [hU]; exact World.cell?_setCell_same _ _ _ HRD.out.eye.cells.1.2
            have hbU : Below (w.heap.size + 1) (wr) U := by rw [hU]; exact (Below.refl _ _).setCell (by simp) _
            have HRU := Lib.hid (show U.heap[w.heap.size]? = some (.cells (lcell zeroL none 0 0 none 0) 111 (0, 0)) from (hbU.block _ (by omega)).trans HRD.out.res)
            have HBU := Lib.hid (HRD.out.bel.trans (hbU.mono (by omega)))
            clear hbU
            clear hU
            refine wp_region_any (by kernel_rfl) ?_
            refine wpAny_of_held (S := E15 (w.heap.size + 1) (3)) _ _ _ _ ?_
            have hS0 : E15 (w.heap.size + 1) (3) U.drew := ⟨hq⟩
            clear hq q0 q1 d0 d6 g1
            refine heldTake 0 124 (v := .agg (lcell zeroL none 0 0 none 0)) rfl rfl (by kernel_rfl) (by kernel_rfl) (by kernel_rfl) (fun _ _ _ h => h) hS0 (.inl ⟨by rfl, by intro w' hS; clear hS; go_simp; (try (all_goals rfl))⟩) ?_
            simp only [List.set_cons_zero, List.set_cons_succ]
            refine heldTake 1 125 rfl rfl (by kernel_rfl) (by kernel_rfl) (by kernel_rfl) (fun _ _ _ h => h) hS0 (.inl ⟨by rfl, by intro w' hS; obtain ⟨s1⟩ := hS; go_simp; (try rfl)⟩) ?_
            simp only [List.set_cons_zero, List.set_cons_succ]
            refine heldTake 2 126 rfl rfl (by kernel_rfl) (by kernel_rfl) (by kernel_rfl) (fun _ _ _ h => h) hS0 (.inl ⟨by rfl, by intro w' hS; obtain ⟨s1⟩ := hS; go_simp; (try rfl)⟩) ?_
            simp only [List.set_cons_zero, List.set_cons_succ]
            refine heldTake 3 127 rfl rfl (by kernel_rfl) (by kernel_rfl) (by kernel_rfl) (fun _ _ _ h => h) hS0 (.inl ⟨by rfl, by intro w' hS; obtain ⟨s1⟩ := hS; go_simp; (try rfl)⟩) ?_
            simp only [List.set_cons_zero, List.set_cons_succ]
            refine heldTake 4 128 rfl rfl (by kernel_rfl) (by kernel_rfl) (by kernel_rfl) (fun _ _ _ h => h) hS0 (.inl ⟨by rfl, by intro w' hS; obtain ⟨s1⟩ := hS; go_simp; (try rfl)⟩) ?_
            simp only [List.set_cons_zero, List.set_cons_succ]
            refine heldOne 5 (by kernel_rfl) rfl (by rfl) ?_
            refine wp_store_row 111 (.tmp 2) (.tmp 124) rfl w.heap.size (lcell zeroL none 0 0 none 0) rfl rfl 111 _ HRU.out infoLetter rfl (by simp [Value.oneCell']) ?_
            have hS1 : E15 (w.heap.size + 1) (3) (U.drew.setRow w.heap.size (lcell zeroL none 0 0 none 0)) := ⟨(World.cell?_of_block (a := ⟨w.heap.size + 1, 1, none⟩) (setRow_other _ _ _ _ (by show w.heap.size + 1 ≠ w.heap.size; omega))).trans hS0.e⟩
            refine ⟨hS1, ?_⟩
            refine heldTake 6 3 rfl rfl (by kernel_rfl) (by kernel_rfl) (by kernel_rfl) (fun _ _ _ h => h) hS1 (.inl ⟨by rfl, by intro w' hS; obtain ⟨s1⟩ := hS; go_simp; (try rfl)⟩) ?_
            simp only [List.set_cons_zero, List.set_cons_succ]
            refine wpAnyH_done (by kernel_rfl) ?_ _
            have HROWF := Lib.hid (setRow_heap U.drew w.heap.size _ (lcell zeroL none 0 0 none 0) 111 _ HRU.out)
            have HBF := Lib.hid (HBU.out.trans ((Below.refl _ U).drew.trans (below_setRow U.drew (lcell zeroL none 0 0 none 0) (Nat.le_refl _))))
            clear hS0 hS1
            go_wp2
            (try rw [Exit.noGoto_ret])
            refine bodyPost_ret (results_row_tmp rfl _ _ w.heap.size 111 _ (0, 0) _ rfl HROWF.out Try.underlying111 rfl infoLetter) rfl ⟨HBF.out, rfl⟩
        · have te : (s.e == 0) = false := by simpa using he9
          have te2 : (s.e != 0) = true := by simpa using he9
          have hO : O = (s.e, none) := by rw [HOF.out]; simp [fin, he9]
          subst hO
          clear he9
          obtain ⟨⟨q0, q1⟩, ⟨d0, d6⟩, ff, fq⟩ := HRD.out.cells
          have d0 : (wr).cell? ⟨w1.heap.size, 0, none⟩ = some (.int .i64 3) := d0
          have g1 := fq 1
          clear ff fq
          go_wp2_with fail
          obtain ⟨U, hU⟩ : ∃ U, U = wr := ⟨_, rfl⟩
          rw [show wr = U from hU.symm]
          have hq : U.cell? ⟨w.heap.size + 1, 1, none⟩ = some (.int .i64 s.e) := by rw [hU]; exact HRD.out.eye.cells.1.2
          have HRU := Lib.hid (show U.heap[w.heap.size]? = some (.cells (lcell zeroL none 0 0 none 0) 111 (0, 0)) by rw [hU]; exact HRD.out.res)
          have HBU := Lib.hid (show Below w.heap.size w U by rw [hU]; exact HRD.out.bel)
          clear hU
          refine wp_region_any (by kernel_rfl) ?_
          refine wpAny_of_held (S := E15 (w.heap.size + 1) (s.e)) _ _ _ _ ?_
          have hS0 : E15 (w.heap.size + 1) (s.e) U.drew := ⟨hq⟩
          clear hq q0 q1 d0 d6 g1
          refine heldTake 0 124 (v := .agg (lcell zeroL none 0 0 none 0)) rfl rfl (by kernel_rfl) (by kernel_rfl) (by kernel_rfl) (fun _ _ _ h => h) hS0 (.inl ⟨by rfl, by intro w' hS; clear hS; go_simp; (try (all_goals rfl))⟩) ?_
          simp only [List.set_cons_zero, List.set_cons_succ]
          refine heldTake 1 125 rfl rfl (by kernel_rfl) (by kernel_rfl) (by kernel_rfl) (fun _ _ _ h => h) hS0 (.inl ⟨by rfl, by intro w' hS; obtain ⟨s1⟩ := hS; go_simp; (try rfl)⟩) ?_
          simp only [List.set_cons_zero, List.set_cons_succ]
          refine heldTake 2 126 rfl rfl (by kernel_rfl) (by kernel_rfl) (by kernel_rfl) (fun _ _ _ h => h) hS0 (.inl ⟨by rfl, by intro w' hS; obtain ⟨s1⟩ := hS; go_simp; (try rfl)⟩) ?_
          simp only [List.set_cons_zero, List.set_cons_succ]
          refine heldTake 3 127 rfl rfl (by kernel_rfl) (by kernel_rfl) (by kernel_rfl) (fun _ _ _ h => h) hS0 (.inl ⟨by rfl, by intro w' hS; obtain ⟨s1⟩ := hS; go_simp; (try rfl)⟩) ?_
          simp only [List.set_cons_zero, List.set_cons_succ]
          refine heldTake 4 128 rfl rfl (by kernel_rfl) (by kernel_rfl) (by kernel_rfl) (fun _ _ _ h => h) hS0 (.inl ⟨by rfl, by intro w' hS; obtain ⟨s1⟩ := hS; go_simp; (try rfl)⟩) ?_
          simp only [List.set_cons_zero, List.set_cons_succ]
          refine heldOne 5 (by kernel_rfl) rfl (by rfl) ?_
          refine wp_store_row 111 (.tmp 2) (.tmp 124) rfl w.heap.size (lcell zeroL none 0 0 none 0) rfl rfl 111 _ HRU.out infoLetter rfl (by simp [Value.oneCell']) ?_
          have hS1 : E15 (w.heap.size + 1) (s.e) (U.drew.setRow w.heap.size (lcell zeroL none 0 0 none 0)) := ⟨(World.cell?_of_block (a := ⟨w.heap.size + 1, 1, none⟩) (setRow_other _ _ _ _ (by show w.heap.size + 1 ≠ w.heap.size; omega))).trans hS0.e⟩
          refine ⟨hS1, ?_⟩
          refine heldTake 6 3 rfl rfl (by kernel_rfl) (by kernel_rfl) (by kernel_rfl) (fun _ _ _ h => h) hS1 (.inl ⟨by rfl, by intro w' hS; obtain ⟨s1⟩ := hS; go_simp; (try rfl)⟩) ?_
          simp only [List.set_cons_zero, List.set_cons_succ]
          refine wpAnyH_done (by kernel_rfl) ?_ _
          have HROWF := Lib.hid (setRow_heap U.drew w.heap.size _ (lcell zeroL none 0 0 none 0) 111 _ HRU.out)
          have HBF := Lib.hid (HBU.out.trans ((Below.refl _ U).drew.trans (below_setRow U.drew (lcell zeroL none 0 0 none 0) (Nat.le_refl _))))
          clear hS0 hS1
          go_wp2
          (try rw [Exit.noGoto_ret])
          refine bodyPost_ret (results_row_tmp rfl _ _ w.heap.size 111 _ (0, 0) _ rfl HROWF.out Try.underlying111 rfl infoLetter) rfl ⟨HBF.out, rfl⟩
  · have hz := hkz (by decide)
    have tz : (s1.e == 0) = true := by simpa using hz
    clear hz
    clear hkz
    obtain ⟨⟨q0, q1⟩, ⟨d0, d6⟩, ff, fq⟩ := HC2.out.cells
    have d0 : (w2).cell? ⟨w1.heap.size, 0, none⟩ = some (.int .i64 4) := d0
    clear ff fq
    rw [show w2 = w1.alloc (.cells #[.int .i64 4, .int .i64 0, .int .i64 0, .int .i64 0, .int .i64 0, .bool false, .slice none 0 0, .slice none 0 0] 111) from HW2.out] at HC2 q0 q1 d0 d6
    obtain ⟨t, s3, hp3⟩ : ∃ n s, (n, s) = askN 1099511627776 s1 := ⟨_, _, rfl⟩
    have HP3 := Lib.hid hp3
    have hm3 : t ≤ 1099511627776 := by have := askN_le 1099511627776 s1; rw [← hp3] at this; exact this
    clear hp3
    go_wp2_with fail
    clear q0 q1 d0 d6
    refine (r15EyeNum 1099511627776 (by omega) (w.heap.size + 1) w.heap.size s1 a1 c1 _ HC2.out.eye (by omega)).mono ?_
    rintro e w3 ⟨rfl, hg3, a3, c3, he3⟩
    rw [show (askN 1099511627776 s1).2 = s3 by rw [← HP3.out]] at he3
    rw [show (askN 1099511627776 s1).1 = t by rw [← HP3.out]]
    have HC3 := Lib.hid (HC2.out.step hg3 he3)
    have hlt3 := HC3.out.lt
    have HD3 := Lib.hid (HC3.out.set 1 (.int .i64 t) (v' := ⟨4, t, 0, 0, 0, false, [], []⟩) rfl rfl HC3.out.b)
    clear hg3 he3
    obtain ⟨⟨q0, q1⟩, ⟨d0, d6⟩, ff, fq⟩ := HC3.out.cells
    have d0 : (w3).cell? ⟨w1.heap.size, 0, none⟩ = some (.int .i64 4) := d0
    have f1 := ff 1
    have l1 := (letCells HC3.out.row).2.1
    clear ff fq
    obtain ⟨vy, s4, hp4⟩ : ∃ n s, (n, s) = askN 1 s3 := ⟨_, _, rfl⟩
    have HP4 := Lib.hid hp4
    have hm4 : vy ≤ 1 := by have := askN_le 1 s3; rw [← hp4] at this; exact this
    clear hp4
    go_wp2_with fail
    clear q0 q1 d0 d6 f1 l1
    obtain ⟨x4, hx4⟩ : ∃ W, W = w3.setCell ⟨w1.heap.size, 1, none⟩ (.int .i64 t) := ⟨_, rfl⟩
    rw [← hx4] at HD3 ⊢
    clear hx4
    refine (r15EyeNum 1 (by omega) (w.heap.size + 1) w.heap.size s3 a3 c3 _ HD3.out.eye (by omega)).mono ?_
    rintro e w4 ⟨rfl, hg4, a4, c4, he4⟩
    rw [show (askN 1 s3).2 = s4 by rw [← HP4.out]] at he4
    rw [show (askN 1 s3).1 = vy by rw [← HP4.out]]
    have HC4 := Lib.hid (HD3.out.step hg4 he4)
    have hlt4 := HC4.out.lt
    have ty : ((vy : Int) == 1) = (vy == 1) := by rw [Bool.eq_iff_iff]; simp; omega
    have HD4 := Lib.hid (HC4.out.set 5 (.bool (vy == 1)) (v' := ⟨4, t, 0, 0, 0, vy == 1, [], []⟩) rfl rfl HC4.out.b)
    clear hg4 he4
    obtain ⟨⟨q0, q1⟩, ⟨d0, d6⟩, ff, fq⟩ := HC4.out.cells
    have d0 : (w4).cell? ⟨w1.heap.size, 0, none⟩ = some (.int .i64 4) := d0
    have f5 := ff 5
    have l5 := (letCells HC4.out.row).2.2.2.2.2.1
    clear ff fq
    obtain ⟨va, s5, hp5⟩ : ∃ n s, (n, s) = askN 1099511627776 s4 := ⟨_, _, rfl⟩
    have HP5 := Lib.hid hp5
    have hm5 : va ≤ 1099511627776 := by have := askN_le 1099511627776 s4; rw [← hp5] at this; exact this
    clear hp5
    go_wp2_with fail
    clear q0 q1 d0 d6 f5 l5
    obtain ⟨x5, hx5⟩ : ∃ W, W = w4.setCell ⟨w1.heap.size, 5, none⟩ (.bool (vy == 1)) := ⟨_, rfl⟩
    rw [← hx5] at HD4 ⊢
    clear hx5
    refine (r15EyeNum 1099511627776 (by omega) (w.heap.size + 1) w.heap.size s4 a4 c4 _ HD4.out.eye (by omega)).mono ?_
    rintro e w5 ⟨rfl, hg5, a5, c5, he5⟩
    rw [show (askN 1099511627776 s4).2 = s5 by rw [← HP5.out]] at he5
    rw [show (askN 1099511627776 s4).1 = va by rw [← HP5.out]]
    have HC5 := Lib.hid (HD4.out.step hg5 he5)
    have hlt5 := HC5.out.lt
    have HD5 := Lib.hid (HC5.out.set 2 (.int .i64 va) (v' := ⟨4, t, va, 0, 0, vy == 1, [], []⟩) rfl rfl HC5.out.b)
    clear hg5 he5
    obtain ⟨⟨q0, q1⟩, ⟨d0, d6⟩, ff, fq⟩ := HC5.out.cells
    have d0 : (w5).cell? ⟨w1.heap.size, 0, none⟩ = some (.int .i64 4) := d0
    have f2 := ff 2
    have l2 := (letCells HC5.out.row).2.2.1
    clear ff fq
    obtain ⟨vo, s6, hp6⟩ : ∃ n s, (n, s) = askN 1099511627776 s5 := ⟨_, _, rfl⟩
    have HP6 := Lib.hid hp6
    have hm6 : vo ≤ 1099511627776 := by have := askN_le 1099511627776 s5; rw [← hp6] at this; exact this
    clear hp6
    go_wp2_with fail
    clear q0 q1 d0 d6 f2 l2
    obtain ⟨x6, hx6⟩ : ∃ W, W = w5.setCell ⟨w1.heap.size, 2, none⟩ (.int .i64 va) := ⟨_, rfl⟩
    rw [← hx6] at HD5 ⊢
    clear hx6
    refine (r15EyeNum 1099511627776 (by omega) (w.heap.size + 1) w.heap.size s5 a5 c5 _ HD5.out.eye (by omega)).mono ?_
    rintro e w6 ⟨rfl, hg6, a6, c6, he6⟩
    rw [show (askN 1099511627776 s5).2 = s6 by rw [← HP6.out]] at he6
    rw [show (askN 1099511627776 s5).1 = vo by rw [← HP6.out]]
    have HC6 := Lib.hid (HD5.out.step hg6 he6)
    have hlt6 := HC6.out.lt
    have HD6 := Lib.hid (HC6.out.set 4 (.int .i64 vo) (v' := ⟨4, t, va, 0, vo, vy == 1, [], []⟩) rfl rfl HC6.out.b)
    clear hg6 he6
    obtain ⟨⟨q0, q1⟩, ⟨d0, d6⟩, ff, fq⟩ := HC6.out.cells
    have d0 : (w6).cell? ⟨w1.heap.size, 0, none⟩ = some (.int .i64 4) := d0
    have f4 := ff 4
    have l4 := (letCells HC6.out.row).2.2.2.2.1
    clear ff fq
    have HOF := Lib.hid (show O = fin ⟨4, t, va, 0, vo, vy == 1, [], []⟩ s6 by
      rw [HO.out, if_neg (by simp), ← HP3.out, fink4]
      simp only [fin4, ← HP4.out, ← HP5.out, ← HP6.out]; (try rfl))
    clear q0 q1 d0 d6 f4 l4
    by_cases he9 : s6.e = 0
    · have te : (s6.e == 0) = true := by simpa using he9
      have te2 : (s6.e != 0) = false := by simp [he9]
      by_cases hl9 : s6.l = []
      · have tl : decide (0 < s6.l.length) = false := by rw [hl9]; rfl
        have hO : O = (0, some ⟨4, t, va, 0, vo, vy == 1, [], []⟩) := by rw [HOF.out]; simp [fin, he9, hl9]
        subst hO
        clear he9 hl9
        obtain ⟨⟨q0, q1⟩, ⟨d0, d6⟩, ff, fq⟩ := HC6.out.cells
        have d0 : (w6).cell? ⟨w1.heap.size, 0, none⟩ = some (.int .i64 4) := d0
        have f4 := ff 4
        have l4 := (letCells HC6.out.row).2.2.2.2.1
        have g1 := fq 1
        clear ff fq
        obtain ⟨-, c1, c2, c3, c4, c5, c6, c7⟩ := letCells HC6.out.row
        go_wp2_with (refine wpList_store_abs rfl 111 (.tmp 2) (.tmp 129) rfl w.heap.size _ rfl rfl 111 _ HD6.out.res infoLetter rfl (by simp [Value.oneCell']) ?_; intro W9 hrow9 hoth9 hb9 hs9)
        refine bodyPost_ret (results_row_tmp rfl _ _ w.heap.size 111 _ (0, 0) _ rfl hrow9 Try.underlying111 rfl infoLetter) rfl ?_
        exact ⟨HD6.out.bel.trans hb9, none, 0, ([] : List MItem), none, 0, rfl, HD6.out.letAt hb9 hoth9⟩
      · have tl : decide ((0 : Int) < (s6.l.length : Int)) = true := by
          have h9 : 0 < s6.l.length := List.length_pos_iff.2 hl9
          simp; omega
        have tl2 : decide (0 < s6.l.length) = true := by
          have h9 : 0 < s6.l.length := List.length_pos_iff.2 hl9
          simp; omega
        have hO : O = (3, none) := by rw [HOF.out]; simp [fin, he9, hl9]
        subst hO
        clear he9 hl9
        obtain ⟨⟨q0, q1⟩, ⟨d0, d6⟩, ff, fq⟩ := HC6.out.cells
        have d0 : (w6).cell? ⟨w1.heap.size, 0, none⟩ = some (.int .i64 4) := d0
        have f4 := ff 4
        have l4 := (letCells HC6.out.row).2.2.2.2.1
        have g1 := fq 1
        clear ff fq
        go_wp2_with fail
        obtain ⟨U, hU⟩ : ∃ U, U = (w6.setCell ⟨w1.heap.size, 4, none⟩ (.int .i64 vo)).setCell ⟨w.heap.size + 1, 1, none⟩ (.int .i64 3) := ⟨_, rfl⟩
        rw [← hU]
        have hq : U.cell? ⟨w.heap.size + 1, 1, none⟩ = some (.int .i64 3) := by rw [hU]; exact World.cell?_setCell_same _ _ _ HD6.out.eye.cells.1.2
        have hbU : Below (w.heap.size + 1) (w6.setCell ⟨w1.heap.size, 4, none⟩ (.int .i64 vo)) U := by rw [hU]; exact (Below.refl _ _).setCell (by simp) _
        have HRU := Lib.hid (show U.heap[w.heap.size]? = some (.cells (lcell zeroL none 0 0 none 0) 111 (0, 0)) from (hbU.block _ (by omega)).trans HD6.out.res)
        have HBU := Lib.hid (HD6.out.bel.trans (hbU.mono (by omega)))
        clear hbU
        clear hU
        refine wp_region_any (by kernel_rfl) ?_
        refine wpAny_of_held (S := E15 (w.heap.size + 1) (3)) _ _ _ _ ?_
        have hS0 : E15 (w.heap.size + 1) (3) U.drew := ⟨hq⟩
        clear hq q0 q1 d0 d6 g1 f4 l4
        refine heldTake 0 124 (v := .agg (lcell zeroL none 0 0 none 0)) rfl rfl (by kernel_rfl) (by kernel_rfl) (by kernel_rfl) (fun _ _ _ h => h) hS0 (.inl ⟨by rfl, by intro w' hS; clear hS; go_simp; (try (all_goals rfl))⟩) ?_
        simp only [List.set_cons_zero, List.set_cons_succ]
        refine heldTake 1 125 rfl rfl (by kernel_rfl) (by kernel_rfl) (by kernel_rfl) (fun _ _ _ h => h) hS0 (.inl ⟨by rfl, by intro w' hS; obtain ⟨s1⟩ := hS; go_simp; (try rfl)⟩) ?_
        simp only [List.set_cons_zero, List.set_cons_succ]
        refine heldTake 2 126 rfl rfl (by kernel_rfl) (by kernel_rfl) (by kernel_rfl) (fun _ _ _ h => h) hS0 (.inl ⟨by rfl, by intro w' hS; obtain ⟨s1⟩ := hS; go_simp; (try rfl)⟩) ?_
        simp only [List.set_cons_zero, List.set_cons_succ]
        refine heldTake 3 127 rfl rfl (by kernel_rfl) (by kernel_rfl) (by kernel_rfl) (fun _ _ _ h => h) hS0 (.inl ⟨by rfl, by intro w' hS; obtain ⟨s1⟩ := hS; go_simp; (try rfl)⟩) ?_
        simp only [List.set_cons_zero, List.set_cons_succ]
        refine heldTake 4 128 rfl rfl (by kernel_rfl) (by kernel_rfl) (by kernel_rfl) (fun _ _ _ h => h) hS0 (.inl ⟨by rfl, by intro w' hS; obtain ⟨s1⟩ := hS; go_simp; (try rfl)⟩) ?_
        simp only [List.set_cons_zero, List.set_cons_succ]
        refine heldOne 5 (by kernel_rfl) rfl (by rfl) ?_
        refine wp_store_row 111 (.tmp 2) (.tmp 124) rfl w.heap.size (lcell zeroL none 0 0 none 0) rfl rfl 111 _ HRU.out infoLetter rfl (by simp [Value.oneCell']) ?_
        have hS1 : E15 (w.heap.size + 1) (3) (U.drew.setRow w.heap.size (lcell zeroL none 0 0 none 0)) := ⟨(World.cell?_of_block (a := ⟨w.heap.size + 1, 1, none⟩) (setRow_other _ _ _ _ (by show w.heap.size + 1 ≠ w.heap.size; omega))).trans hS0.e⟩
        refine ⟨hS1, ?_⟩
        refine heldTake 6 3 rfl rfl (by kernel_rfl) (by kernel_rfl) (by kernel_rfl) (fun _ _ _ h => h) hS1 (.inl ⟨by rfl, by intro w' hS; obtain ⟨s1⟩ := hS; go_simp; (try rfl)⟩) ?_
        simp only [List.set_cons_zero, List.set_cons_succ]
        refine wpAnyH_done (by kernel_rfl) ?_ _
        have HROWF := Lib.hid (setRow_heap U.drew w.heap.size _ (lcell zeroL none 0 0 none 0) 111 _ HRU.out)
        have HBF := Lib.hid (HBU.out.trans ((Below.refl _ U).drew.trans (below_setRow U.drew (lcell zeroL none 0 0 none 0) (Nat.le_refl _))))
        clear hS0 hS1
        go_wp2
        (try rw [Exit.noGoto_ret])
        refine bodyPost_ret (results_row_tmp rfl _ _ w.heap.size 111 _ (0, 0) _ rfl HROWF.out Try.underlying111 rfl infoLetter) rfl ⟨HBF.out, rfl⟩
    · have te : (s6.e == 0) = false := by simpa using he9
      have te2 : (s6.e != 0) = true := by simpa using he9
      have hO : O = (s6.e, none) := by rw [HOF.out]; simp [fin, he9]
      subst hO
      clear he9
      obtain ⟨⟨q0, q1⟩, ⟨d0, d6⟩, ff, fq⟩ := HC6.out.cells
      have d0 : (w6).cell? ⟨w1.heap.size, 0, none⟩ = some (.int .i64 4) := d0
      have f4 := ff 4
      have l4 := (letCells HC6.out.row).2.2.2.2.1
      have g1 := fq 1
      clear ff fq
      go_wp2_with fail
      obtain ⟨U, hU⟩ : ∃ U, U = w6.setCell ⟨w1.heap.size, 4, none⟩ (.int .i64 vo) := ⟨_, rfl⟩
      rw [← hU]
      have hq : U.cell? ⟨w.heap.size + 1, 1, none⟩ = some (.int .i64 s6.e) := by rw [hU]; exact HD6.out.eye.cells.1.2
      have HRU := Lib.hid (show U.heap[w.heap.size]? = some (.cells (lcell zeroL none 0 0 none 0) 111 (0, 0)) by rw [hU]; exact HD6.out.res)
      have HBU := Lib.hid (show Below w.heap.size w U by rw [hU]; exact HD6.out.bel)
      clear hU
      refine wp_region_any (by kernel_rfl) ?_
      refine wpAny_of_held (S := E15 (w.heap.size + 1) (s6.e)) _ _ _ _ ?_
      have hS0 : E15 (w.heap.size + 1) (s6.e) U.drew := ⟨hq⟩
      clear hq q0 q1 d0 d6 g1 f4 l4
      refine heldTake 0 124 (v := .agg (lcell zeroL none 0 0 none 0)) rfl rfl (by kernel_rfl) (by kernel_rfl) (by kernel_rfl) (fun _ _ _ h => h) hS0 (.inl ⟨by rfl, by intro w' hS; clear hS; go_simp; (try (all_goals rfl))⟩) ?_
      simp only [List.set_cons_zero, List.set_cons_succ]
      refine heldTake 1 125 rfl rfl (by kernel_rfl) (by kernel_rfl) (by kernel_rfl) (fun _ _ _ h => h) hS0 (.inl ⟨by rfl, by intro w' hS; obtain ⟨s1⟩ := hS; go_simp; (try rfl)⟩) ?_
      simp only [List.set_cons_zero, List.set_cons_succ]
      refine heldTake 2 126 rfl rfl (by kernel_rfl) (by kernel_rfl) (by kernel_rfl) (fun _ _ _ h => h) hS0 (.inl ⟨by rfl, by intro w' hS; obtain ⟨s1⟩ := hS; go_simp; (try rfl)⟩) ?_
      simp only [List.set_cons_zero, List.set_cons_succ]
      refine heldTake 3 127 rfl rfl (by kernel_rfl) (by kernel_rfl) (by kernel_rfl) (fun _ _ _ h => h) hS0 (.inl ⟨by rfl, by intro w' hS; obtain ⟨s1⟩ := hS; go_simp; (try rfl)⟩) ?_
      simp only [List.set_cons_zero, List.set_cons_succ]
      refine heldTake 4 128 rfl rfl (by kernel_rfl) (by kernel_rfl) (by kernel_rfl) (fun _ _ _ h => h) hS0 (.inl ⟨by rfl, by intro w' hS; obtain ⟨s1⟩ := hS; go_simp; (try rfl)⟩) ?_
      simp only [List.set_cons_zero, List.set_cons_succ]
      refine heldOne 5 (by kernel_rfl) rfl (by rfl) ?_
      refine wp_store_row 111 (.tmp 2) (.tmp 124) rfl w.heap.size (lcell zeroL none 0 0 none 0) rfl rfl 111 _ HRU.out infoLetter rfl (by simp [Value.oneCell']) ?_
      have hS1 : E15 (w.heap.size + 1) (s6.e) (U.drew.setRow w.heap.size (lcell zeroL none 0 0 none 0)) := ⟨(World.cell?_of_block (a := ⟨w.heap.size + 1, 1, none⟩) (setRow_other _ _ _ _ (by show w.heap.size + 1 ≠ w.heap.size; omega))).trans hS0.e⟩
      refine ⟨hS1, ?_⟩
      refine heldTake 6 3 rfl rfl (by kernel_rfl) (by kernel_rfl) (by kernel_rfl) (fun _ _ _ h => h) hS1 (.inl ⟨by rfl, by intro w' hS; obtain ⟨s1⟩ := hS; go_simp; (try rfl)⟩) ?_
      simp only [List.set_cons_zero, List.set_cons_succ]
      refine wpAnyH_done (by kernel_rfl) ?_ _
      have HROWF := Lib.hid (setRow_heap U.drew w.heap.size _ (lcell zeroL none 0 0 none 0) 111 _ HRU.out)
      have HBF := Lib.hid (HBU.out.trans ((Below.refl _ U).drew.trans (below_setRow U.drew (lcell zeroL none 0 0 none 0) (Nat.le_refl _))))
      clear hS0 hS1
      go_wp2
      (try rw [Exit.noGoto_ret])
      refine bodyPost_ret (results_row_tmp rfl _ _ w.heap.size 111 _ (0, 0) _ rfl HROWF.out Try.underlying111 rfl infoLetter) rfl ⟨HBF.out, rfl⟩
  · have hz := hkz (by decide)
    have tz : (s1.e == 0) = true := by simpa using hz
    clear hz
    clear hkz
    obtain ⟨⟨q0, q1⟩, ⟨d0, d6⟩, ff, fq⟩ := HC2.out.cells
    have d0 : (w2).cell? ⟨w1.heap.size, 0, none⟩ = some (.int .i64 5) := d0
    clear ff fq
    rw [show w2 = w1.alloc (.cells #[.int .i64 5, .int .i64 0, .int .i64 0, .int .i64 0, .int .i64 0, .bool false, .slice none 0 0, .slice none 0 0] 111) from HW2.out] at HC2 q0 q1 d0 d6
    obtain ⟨t, s3, hp3⟩ : ∃ n s, (n, s) = askN 1099511627776 s1 := ⟨_, _, rfl⟩
    have HP3 := Lib.hid hp3
    have hm3 : t ≤ 1099511627776 := by have := askN_le 1099511627776 s1; rw [← hp3] at this; exact this
    clear hp3
    go_wp2_with fail
    clear q0 q1 d0 d6
    refine (r15EyeNum 1099511627776 (by omega) (w.heap.size + 1) w.heap.size s1 a1 c1 _ HC2.out.eye (by omega)).mono ?_
    rintro e w3 ⟨rfl, hg3, a3, c3, he3⟩
    rw [show (askN 1099511627776 s1).2 = s3 by rw [← HP3.out]] at he3
    rw [show (askN 1099511627776 s1).1 = t by rw [← HP3.out]]
    have HC3 := Lib.hid (HC2.out.step hg3 he3)
    have hlt3 := HC3.out.lt
    have HD3 := Lib.hid (HC3.out.set 1 (.int .i64 t) (v' := ⟨5, t, 0, 0, 0, false, [], []⟩) rfl rfl HC3.out.b)
    clear hg3 he3
    obtain ⟨⟨q0, q1⟩, ⟨d0, d6⟩, ff, fq⟩ := HC3.out.cells
    have d0 : (w3).cell? ⟨w1.heap.size, 0, none⟩ = some (.int .i64 5) := d0
    have f1 := ff 1
    have l1 := (letCells HC3.out.row).2.1
    clear ff fq
    obtain ⟨va, s4, hp4⟩ : ∃ n s, (n, s) = askN 1099511627776 s3 := ⟨_, _, rfl⟩
    have HP4 := Lib.hid hp4
    have hm4 : va ≤ 1099511627776 := by have := askN_le 1099511627776 s3; rw [← hp4] at this; exact this
    clear hp4
    go_wp2_with fail
    clear q0 q1 d0 d6 f1 l1
    obtain ⟨x4, hx4⟩ : ∃ W, W = w3.setCell ⟨w1.heap.size, 1, none⟩ (.int .i64 t) := ⟨_, rfl⟩
    rw [← hx4] at HD3 ⊢
    clear hx4
    refine (r15EyeNum 1099511627776 (by omega) (w.heap.size + 1) w.heap.size s3 a3 c3 _ HD3.out.eye (by omega)).mono ?_
    rintro e w4 ⟨rfl, hg4, a4, c4, he4⟩
    rw [show (askN 1099511627776 s3).2 = s4 by rw [← HP4.out]] at he4
    rw [show (askN 1099511627776 s3).1 = va by rw [← HP4.out]]
    have HC4 := Lib.hid (HD3.out.step hg4 he4)
    have hlt4 := HC4.out.lt
    have HD4 := Lib.hid (HC4.out.set 2 (.int .i64 va) (v' := ⟨5, t, va, 0, 0, false, [], []⟩) rfl rfl HC4.out.b)
    clear hg4 he4
    obtain ⟨⟨q0, q1⟩, ⟨d0, d6⟩, ff, fq⟩ := HC4.out.cells
    have d0 : (w4).cell? ⟨w1.heap.size, 0, none⟩ = some (.int .i64 5) := d0
    have f2 := ff 2
    have l2 := (letCells HC4.out.row).2.2.1
    clear ff fq
    obtain ⟨vu, s5, hp5⟩ : ∃ n s, (n, s) = askN 1099511627776 s4 := ⟨_, _, rfl⟩
    have HP5 := Lib.hid hp5
    have hm5 : vu ≤ 1099511627776 := by have := askN_le 1099511627776 s4; rw [← hp5] at this; exact this
    clear hp5
    go_wp2_with fail
    clear q0 q1 d0 d6 f2 l2
    obtain ⟨x5, hx5⟩ : ∃ W, W = w4.setCell ⟨w1.heap.size, 2, none⟩ (.int .i64 va) := ⟨_, rfl⟩
    rw [← hx5] at HD4 ⊢
    clear hx5
    refine (r15EyeNum 1099511627776 (by omega) (w.heap.size + 1) w.heap.size s4 a4 c4 _ HD4.out.eye (by omega)).mono ?_
    rintro e w5 ⟨rfl, hg5, a5, c5, he5⟩
    rw [show (askN 1099511627776 s4).2 = s5 by rw [← HP5.out]] at he5
    rw [show (askN 1099511627776 s4).1 = vu by rw [← HP5.out]]
    have HC5 := Lib.hid (HD4.out.step hg5 he5)
    have hlt5 := HC5.out.lt
    have HD5 := Lib.hid (HC5.out.set 3 (.int .i64 vu) (v' := ⟨5, t, va, vu, 0, false, [], []⟩) rfl rfl HC5.out.b)
    clear hg5 he5
    obtain ⟨⟨q0, q1⟩, ⟨d0, d6⟩, ff, fq⟩ := HC5.out.cells
    have d0 : (w5).cell? ⟨w1.heap.size, 0, none⟩ = some (.int .i64 5) := d0
    have f3 := ff 3
    have l3 := (letCells HC5.out.row).2.2.2.1
    clear ff fq
    obtain ⟨vb, s6, hp6⟩ : ∃ n s, (n, s) = askT 65536 s5 := ⟨_, _, rfl⟩
    have HP6 := Lib.hid hp6
    have hm6 : vb.length ≤ 65536 := by have := askT_le 65536 s5; rw [← hp6] at this; exact this
    clear hp6
    go_wp2_with fail
    clear q0 q1 d0 d6 f3 l3
    obtain ⟨x6, hx6⟩ : ∃ W, W = w5.setCell ⟨w1.heap.size, 3, none⟩ (.int .i64 vu) := ⟨_, rfl⟩
    rw [← hx6] at HD5 ⊢
    clear hx6
    refine (r15EyeText 65536 (by omega) (w.heap.size + 1) w.heap.size s5 a5 c5 _ HD5.out.eye (by omega)).mono ?_
    rintro e w6 ⟨ta, tc, rfl, hbt, hg6, a6, c6, he6⟩
    rw [show (askT 65536 s5).2 = s6 by rw [← HP6.out]] at he6
    rw [show (askT 65536 s5).1 = vb by rw [← HP6.out]] at hbt
    rw [show (askT 65536 s5).1 = vb by rw [← HP6.out]]
    have HC6 := Lib.hid (HD5.out.step hg6 he6)
    have hlt6 := HC6.out.lt
    have HBT := Lib.hid hbt
    have HD6 := Lib.hid (HC6.out.set 7 (.slice ta vb.length tc) (v' := ⟨5, t, va, vu, 0, false, [], vb⟩) rfl rfl HBT.out)
    clear hbt
    clear hg6 he6
    obtain ⟨⟨q0, q1⟩, ⟨d0, d6⟩, ff, fq⟩ := HC6.out.cells
    have d0 : (w6).cell? ⟨w1.heap.size, 0, none⟩ = some (.int .i64 5) := d0
    have f7 := ff 7
    have l7 := (letCells HC6.out.row).2.2.2.2.2.2.2
    clear ff fq
    have HOF := Lib.hid (show O = fin ⟨5, t, va, vu, 0, false, [], vb⟩ s6 by
      rw [HO.out, if_neg (by simp), ← HP3.out, fink5]
      simp only [fin5, ← HP4.out, ← HP5.out, ← HP6.out]; (try rfl))
    clear q0 q1 d0 d6 f7 l7
    by_cases he9 : s6.e = 0
    · have te : (s6.e == 0) = true := by simpa using he9
      have te2 : (s6.e != 0) = false := by simp [he9]
      by_cases hl9 : s6.l = []
      · have tl : decide (0 < s6.l.length) = false := by rw [hl9]; rfl
        have hO : O = (0, some ⟨5, t, va, vu, 0, false, [], vb⟩) := by rw [HOF.out]; simp [fin, he9, hl9]
        subst hO
        clear he9 hl9
        obtain ⟨⟨q0, q1⟩, ⟨d0, d6⟩, ff, fq⟩ := HC6.out.cells
        have d0 : (w6).cell? ⟨w1.heap.size, 0, none⟩ = some (.int .i64 5) := d0
        have f7 := ff 7
        have l7 := (letCells HC6.out.row).2.2.2.2.2.2.2
        have g1 := fq 1
        clear ff fq
        obtain ⟨-, c1, c2, c3, c4, c5, c6, c7⟩ := letCells HC6.out.row
        go_wp2_with (refine wpList_store_abs rfl 111 (.tmp 2) (.tmp 129) rfl w.heap.size _ rfl rfl 111 _ HD6.out.res infoLetter rfl (by simp [Value.oneCell']) ?_; intro W9 hrow9 hoth9 hb9 hs9)
        refine bodyPost_ret (results_row_tmp rfl _ _ w.heap.size 111 _ (0, 0) _ rfl hrow9 Try.underlying111 rfl infoLetter) rfl ?_
        exact ⟨HD6.out.bel.trans hb9, none, 0, ([] : List MItem), ta, tc, rfl, HD6.out.letAt hb9 hoth9⟩
      · have tl : decide ((0 : Int) < (s6.l.length : Int)) = true := by
          have h9 : 0 < s6.l.length := List.length_pos_iff.2 hl9
          simp; omega
        have tl2 : decide (0 < s6.l.length) = true := by
          have h9 : 0 < s6.l.length := List.length_pos_iff.2 hl9
          simp; omega
        have hO : O = (3, none) := by rw [HOF.out]; simp [fin, he9, hl9]
        subst hO
        clear he9 hl9
        obtain ⟨⟨q0, q1⟩, ⟨d0, d6⟩, ff, fq⟩ := HC6.out.cells
        have d0 : (w6).cell? ⟨w1.heap.size, 0, none⟩ = some (.int .i64 5) := d0
        have f7 := ff 7
        have l7 := (letCells HC6.out.row).2.2.2.2.2.2.2
        have g1 := fq 1
        clear ff fq
        go_wp2_with fail
        obtain ⟨U, hU⟩ : ∃ U, U = (w6.setCell ⟨w1.heap.size, 7, none⟩ (.slice ta vb.length tc)).setCell ⟨w.heap.size + 1, 1, none⟩ (.int .i64 3) := ⟨_, rfl⟩
        rw [← hU]
        have hq : U.cell? ⟨w.heap.size + 1, 1, none⟩ = some (.int .i64 3) := by rw [hU]; exact World.cell?_setCell_same _ _ _ HD6.out.eye.cells.1.2
        have hbU : Below (w.heap.size + 1) (w6.setCell ⟨w1.heap.size, 7, none⟩ (.slice ta vb.length tc)) U := by rw [hU]; exact (Below.refl _ _).setCell (by simp) _
        have HRU := Lib.hid (show U.heap[w.heap.size]? = some (.cells (lcell zeroL none 0 0 none 0) 111 (0, 0)) from (hbU.block _ (by omega)).trans HD6.out.res)
        have HBU := Lib.hid (HD6.out.bel.trans (hbU.mono (by omega)))
        clear hbU
        clear hU
        refine wp_region_any (by kernel_rfl) ?_
        refine wpAny_of_held (S := E15 (w.heap.size + 1) (3)) _ _ _ _ ?_
        have hS0 : E15 (w.heap.size + 1) (3) U.drew := ⟨hq⟩
        clear hq q0 q1 d0 d6 g1 f7 l7
        refine heldTake 0 124 (v := .agg (lcell zeroL none 0 0 none 0)) rfl rfl (by kernel_rfl) (by kernel_rfl) (by kernel_rfl) (fun _ _ _ h => h) hS0 (.inl ⟨by rfl, by intro w' hS; clear hS; go_simp; (try (all_goals rfl))⟩) ?_
        simp only [List.set_cons_zero, List.set_cons_succ]
        refine heldTake 1 125 rfl rfl (by kernel_rfl) (by kernel_rfl) (by kernel_rfl) (fun _ _ _ h => h) hS0 (.inl ⟨by rfl, by intro w' hS; obtain ⟨s1⟩ := hS; go_simp; (try rfl)⟩) ?_
        simp only [List.set_cons_zero, List.set_cons_succ]
        refine heldTake 2 126 rfl rfl (by kernel_rfl) (by kernel_rfl) (by kernel_rfl) (fun _ _ _ h => h) hS0 (.inl ⟨by rfl, by intro w' hS; obtain ⟨s1⟩ := hS; go_simp; (try rfl)⟩) ?_
        simp only [List.set_cons_zero, List.set_cons_succ]
        refine heldTake 3 127 rfl rfl (by kernel_rfl) (by kernel_rfl) (by kernel_rfl) (fun _ _ _ h => h) hS0 (.inl ⟨by rfl, by intro w' hS; obtain ⟨s1⟩ := hS; go_simp; (try rfl)⟩) ?_
        simp only [List.set_cons_zero, List.set_cons_succ]
        refine heldTake 4 128 rfl rfl (by kernel_rfl) (by kernel_rfl) (by kernel_rfl) (fun _ _ _ h => h) hS0 (.inl ⟨by rfl, by intro w' hS; obtain ⟨s1⟩ := hS; go_simp; (try rfl)⟩) ?_
        simp only [List.set_cons_zero, List.set_cons_succ]
        refine heldOne 5 (by kernel_rfl) rfl (by rfl) ?_
        refine wp_store_row 111 (.tmp 2) (.tmp 124) rfl w.heap.size (lcell zeroL none 0 0 none 0) rfl rfl 111 _ HRU.out infoLetter rfl (by simp [Value.oneCell']) ?_
        have hS1 : E15 (w.heap.size + 1) (3) (U.drew.setRow w.heap.size (lcell zeroL none 0 0 none 0)) := ⟨(World.cell?_of_block (a := ⟨w.heap.size + 1, 1, none⟩) (setRow_other _ _ _ _ (by show w.heap.size + 1 ≠ w.heap.size; omega))).trans hS0.e⟩
        refine ⟨hS1, ?_⟩
        refine heldTake 6 3 rfl rfl (by kernel_rfl) (by kernel_rfl) (by kernel_rfl) (fun _ _ _ h => h) hS1 (.inl ⟨by rfl, by intro w' hS; obtain ⟨s1⟩ := hS; go_simp; (try rfl)⟩) ?_
        simp only [List.set_cons_zero, List.set_cons_succ]
        refine wpAnyH_done (by kernel_rfl) ?_ _
        have HROWF := Lib.hid (setRow_heap U.drew w.heap.size _ (lcell zeroL none 0 0 none 0) 111 _ HRU.out)
        have HBF := Lib.hid (HBU.out.trans ((Below.refl _ U).drew.trans (below_setRow U.drew (lcell zeroL none 0 0 none 0) (Nat.le_refl _))))
        clear hS0 hS1
        go_wp2
        (try rw [Exit.noGoto_ret])
        refine bodyPost_ret (results_row_tmp rfl _ _ w.heap.size 111 _ (0, 0) _ rfl HROWF.out Try.underlying111 rfl infoLetter) rfl ⟨HBF.out, rfl⟩
    · have te : (s6.e == 0) = false := by simpa using he9
      have te2 : (s6.e != 0) = true := by simpa using he9
      have hO : O = (s6.e, none) := by rw [HOF.out]; simp [fin, he9]
      subst hO
      clear he9
      obtain ⟨⟨q0, q1⟩, ⟨d0, d6⟩, ff, fq⟩ := HC6.out.cells
      have d0 : (w6).cell? ⟨w1.heap.size, 0, none⟩ = some (.int .i64 5) := d0
      have f7 := ff 7
      have l7 := (letCells HC6.out.row).2.2.2.2.2.2.2
      have g1 := fq 1
      clear ff fq
      go_wp2_with fail
      obtain ⟨U, hU⟩ : ∃ U, U = w6.setCell ⟨w1.heap.size, 7, none⟩ (.slice ta vb.length tc) := ⟨_, rfl⟩
      rw [← hU]
      have hq : U.cell? ⟨w.heap.size + 1, 1, none⟩ = some (.int .i64 s6.e) := by rw [hU]; exact HD6.out.eye.cells.1.2
      have HRU := Lib.hid (show U.heap[w.heap.size]? = some (.cells (lcell zeroL none 0 0 none 0) 111 (0, 0)) by rw [hU]; exact HD6.out.res)
      have HBU := Lib.hid (show Below w.heap.size w U by rw [hU]; exact HD6.out.bel)
      clear hU
      refine wp_region_any (by kernel_rfl) ?_
      refine wpAny_of_held (S := E15 (w.heap.size + 1) (s6.e)) _ _ _ _ ?_
      have hS0 : E15 (w.heap.size + 1) (s6.e) U.drew := ⟨hq⟩
      clear hq q0 q1 d0 d6 g1 f7 l7
      refine heldTake 0 124 (v := .agg (lcell zeroL none 0 0 none 0)) rfl rfl (by kernel_rfl) (by kernel_rfl) (by kernel_rfl) (fun _ _ _ h => h) hS0 (.inl ⟨by rfl, by intro w' hS; clear hS; go_simp; (try (all_goals rfl))⟩) ?_
      simp only [List.set_cons_zero, List.set_cons_succ]
      refine heldTake 1 125 rfl rfl (by kernel_rfl) (by kernel_rfl) (by kernel_rfl) (fun _ _ _ h => h) hS0 (.inl ⟨by rfl, by intro w' hS; obtain ⟨s1⟩ := hS; go_simp; (try rfl)⟩) ?_
      simp only [List.set_cons_zero, List.set_cons_succ]
      refine heldTake 2 126 rfl rfl (by kernel_rfl) (by kernel_rfl) (by kernel_rfl) (fun _ _ _ h => h) hS0 (.inl ⟨by rfl, by intro w' hS; obtain ⟨s1⟩ := hS; go_simp; (try rfl)⟩) ?_
      simp only [List.set_cons_zero, List.set_cons_succ]
      refine heldTake 3 127 rfl rfl (by kernel_rfl) (by kernel_rfl) (by kernel_rfl) (fun _ _ _ h => h) hS0 (.inl ⟨by rfl, by intro w' hS; obtain ⟨s1⟩ := hS; go_simp; (try rfl)⟩) ?_
      simp only [List.set_cons_zero, List.set_cons_succ]
      refine heldTake 4 128 rfl rfl (by kernel_rfl) (by kernel_rfl) (by kernel_rfl) (fun _ _ _ h => h) hS0 (.inl ⟨by rfl, by intro w' hS; obtain ⟨s1⟩ := hS; go_simp; (try rfl)⟩) ?_
      simp only [List.set_cons_zero, List.set_cons_succ]
      refine heldOne 5 (by kernel_rfl) rfl (by rfl) ?_
      refine wp_store_row 111 (.tmp 2) (.tmp 124) rfl w.heap.size (lcell zeroL none 0 0 none 0) rfl rfl 111 _ HRU.out infoLetter rfl (by simp [Value.oneCell']) ?_
      have hS1 : E15 (w.heap.size + 1) (s6.e) (U.drew.setRow w.heap.size (lcell zeroL none 0 0 none 0)) := ⟨(World.cell?_of_block (a := ⟨w.heap.size + 1, 1, none⟩) (setRow_other _ _ _ _ (by show w.heap.size + 1 ≠ w.heap.size; omega))).trans hS0.e⟩
      refine ⟨hS1, ?_⟩
      refine heldTake 6 3 rfl rfl (by kernel_rfl) (by kernel_rfl) (by kernel_rfl) (fun _ _ _ h => h) hS1 (.inl ⟨by rfl, by intro w' hS; obtain ⟨s1⟩ := hS; go_simp; (try rfl)⟩) ?_
      simp only [List.set_cons_zero, List.set_cons_succ]
      refine wpAnyH_done (by kernel_rfl) ?_ _
      have HROWF := Lib.hid (setRow_heap U.drew w.heap.size _ (lcell zeroL none 0 0 none 0) 111 _ HRU.out)
      have HBF := Lib.hid (HBU.out.trans ((Below.refl _ U).drew.trans (below_setRow U.drew (lcell zeroL none 0 0 none 0) (Nat.le_refl _))))
      clear hS0 hS1
      go_wp2
      (try rw [Exit.noGoto_ret])
      refine bodyPost_ret (results_row_tmp rfl _ _ w.heap.size 111 _ (0, 0) _ rfl HROWF.out Try.underlying111 rfl infoLetter) rfl ⟨HBF.out, rfl⟩
end Go.Proofs.Ytogcnfhmcpkdcaa
