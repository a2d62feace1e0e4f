/-
  Contracts of slices.Equal over bytes, of the closure of letter.Same and of slices.EqualFunc over it.
  Contracts of letter.Same and of the reference's Same.
-/
import Derived.Test.YtogcnfhmcpkdcaaGreatLetLaw
namespace Go.Proofs.YtogcnfhmcpkdcaaGreat
open Go.RowKit
set_option linter.unusedVariables false
set_option linter.unusedSimpArgs false
structure TwoB (b o b' o' : Nat) (u v : UInt8) (W : World) : Prop where
 k0 : W.cell? ⟨b, o, none⟩ = some (.int .u8 u.toNat)
 k1 : W.cell? ⟨b', o', none⟩ = some (.int .u8 v.toNat)
set_option maxHeartbeats 1000000 in
theorem equalB (l m : List UInt8) (a a' : Option Addr) (n c n' c' : Nat) (w : World) (h : BsAt w w.heap.size a n c l) (h' : BsAt w w.heap.size a' n' c' m) :
  Calls Tryz.prog 107 #[.slice a n c, .slice a' n' c'] w fun e w' => e = .returned (.bool (decide (l = m))) ∧ Below w.heap.size w w' := by
 have hl := h.hlen;have hl' := h'.hlen;have hbg := h.hbig;subst hl hl';obtain ⟨d, hd⟩ : ∃ d, d = decide (l = m) := ⟨_, rfl⟩
 rw [← hd];have HD := Hh hd;have H := Hh h;have H' := Hh h';by_cases hn : l.length = m.length
 ·have t1 : ((l.length : Int) != (m.length : Int)) = false := by simp; omega
  obtain ⟨n, hnn⟩ : ∃ n, n = l.length := ⟨_, rfl⟩
  have hm9 : m.length = n := by omega
  have HNN := Hh hnn;have HM9 := Hh hm9;rw [← hnn] at t1 hbg ⊢;rw [hm9] at t1 ⊢;clear hd h h' hn hnn hm9;go_enter Tryz.func107, Tryz.ntmps107
  go_wp2_with fail;go_loopw [13] (fun iv wr => ∃ j : Nat, j ≤ n ∧ iv = .int .i64 j ∧ l.take j = m.take j ∧ Below w.heap.size w wr) (fun iv _ => n - (intOf iv).toNat)
  case atStart => exact ⟨0, by omega, rfl, rfl, Below.refl _ _⟩
  case round =>
   obtain ⟨j, hj, rfl, htk, hbel⟩ := hrel;have HTK := Hh htk;have HB := Hh hbel;have hsz := hbel.size;clear htk hbel;by_cases hjn : j < n
   ·have t2 : decide (j < n) = true := by simpa using hjn
    have hnl := HNN.out;have hml := HM9.out;obtain ⟨b, o, e, hb, hc⟩ := H.out.hat (by omega);obtain ⟨b', o', e', hb', hc'⟩ := H'.out.hat (by omega);subst e e';have hjl : j < l.length := by omega
    have hjm : j < m.length := by omega
    have k0 : wr.cell? ⟨b, o + j, none⟩ = some (bv l[j]) := (HB.out.cell (p := ⟨b, o + j, none⟩) hb).trans ((hc j hjl).trans (by simp [hjl]));have k1 : wr.cell? ⟨b', o' + j, none⟩ = some (bv m[j]) := (HB.out.cell (p := ⟨b', o' + j, none⟩) hb').trans ((hc' j hjm).trans (by simp [hjm]));obtain ⟨u, hu⟩ : ∃ u, u = l[j] := ⟨_, rfl⟩
    obtain ⟨v, hv⟩ : ∃ v, v = m[j] := ⟨_, rfl⟩
    rw [← hu] at k0;rw [← hv] at k1;simp only [bv] at k0 k1;have hj0 : (0 : Int) ≤ (j : Int) := by omega
    have hj1 : (j : Int) < (n : Int) := by omega
    have HS := Hh (show u = v → l.take (j + 1) = m.take (j + 1) from fun e9 => by
     rw [List.take_succ_eq_append_getElem hjl, List.take_succ_eq_append_getElem hjm, HTK.out, ← hu, ← hv, e9])
    have HNE := Hh (show u ≠ v → d = false from fun e9 => by
     rw [HD.out, decide_eq_false_iff_not];intro e8;subst e8;exact e9 (hu.trans hv.symm))
    have tw : decide (j < n) = true := by simpa using hjn
    clear hc hc' hnl hml hu hv hjl hjm;by_cases huv : u = v
    ·have t3 : (((u.toNat : Nat) : Int) != ((v.toNat : Nat) : Int)) = false := by simp [huv]
     have HN := Hh (HS.out huv);clear huv;go_wp2_with fail;refine OpR (S := TwoB b (o + j) b' (o' + j) u v) ?_;have hS0 : TwoB b (o + j) b' (o' + j) u v wr.drew := ⟨k0, k1⟩
     have HBD := Hh (HB.out.trans (show Below w.heap.size wr wr.drew from (Below.refl _ _).drew));clear k0 k1;refine hT 0 16 hS0 ?_;refine hT 1 17 hS0 ?_;refine hT 2 18 hS0 ?_;refine hT 3 19 hS0 ?_;refine hT 4 20 hS0 ?_;refine hT 5 21 hS0 ?_;refine hT 6 22 hS0 ?_;refine hT 7 23 hS0 ?_;refine hT 8 24 hS0 ?_;refine OpE ?_;clear hS0;go_wp2;go_roundw
     case rel => exact ⟨j + 1, by omega, by go_num, HN.out, HBD.out⟩
     case measure => simp [intOf]; omega
    ·have hne : u.toNat ≠ v.toNat := fun e => huv (UInt8.toNat_inj.1 e)
     have t3 : (((u.toNat : Nat) : Int) != ((v.toNat : Nat) : Int)) = true := by simp; omega
     have hdf := HNE.out huv;subst hdf;clear huv hne;go_wp2_with fail;refine OpR (S := TwoB b (o + j) b' (o' + j) u v) ?_;have hS0 : TwoB b (o + j) b' (o' + j) u v wr.drew := ⟨k0, k1⟩
     have HBD := Hh (HB.out.trans (show Below w.heap.size wr wr.drew from (Below.refl _ _).drew));clear k0 k1;refine hT 0 16 hS0 ?_;refine hT 1 17 hS0 ?_;refine hT 2 18 hS0 ?_;refine hT 3 19 hS0 ?_;refine hT 4 20 hS0 ?_;refine hT 5 21 hS0 ?_;refine hT 6 22 hS0 ?_;refine hT 7 23 hS0 ?_;refine hT 8 24 hS0 ?_;refine OpE ?_;clear hS0;go_wp2;(try rw [Exit.noGoto_ret]);go_ret;exact ⟨rfl, HBD.out⟩
   ·have t2 : decide (j < n) = false := by simpa using hjn
    have hje : j = n := by omega
    subst hje;have hdt : d = true := by
     have h9 := HTK.out;rw [List.take_of_length_le (by have := HNN.out; omega), List.take_of_length_le (by have := HM9.out; omega)] at h9;rw [HD.out, h9]; simp
    subst hdt;go_wp2;go_ret;exact ⟨rfl, HB.out⟩
 ·have t1 : ((l.length : Int) != (m.length : Int)) = true := by simp; omega
  have hdf : d = false := by rw [hd, decide_eq_false_iff_not]; intro e; rw [e] at hn; exact hn rfl
  subst hdf;clear h h' hn hd;go_enter Tryz.func107, Tryz.ntmps107
  go_wp2;go_ret;exact ⟨rfl, Below.refl _ _⟩
theorem letSame1 (m m' : MItem) (w : World) (h : BsAt w w.heap.size m.a m.b.length m.c m.b) (h' : BsAt w w.heap.size m'.a m'.b.length m'.c m'.b) :
  Calls Tryz.prog 106 #[.agg #[.int .i64 m.t, .slice m.a m.b.length m.c], .agg #[.int .i64 m'.t, .slice m'.a m'.b.length m'.c]] w fun e w' => e = .returned (.bool (decide (m.it = m'.it))) ∧ Below w.heap.size w w' := by
 have hbx := ((Below.refl _ w).alloc (Nat.le_refl w.heap.size) (.cells #[.int .i64 m.t, .slice m.a m.b.length m.c] 40)).alloc (by simp) (.cells #[.int .i64 m'.t, .slice m'.a m'.b.length m'.c] 40);have HBX := Hh hbx;have H := Hh ((h.below hbx (Nat.le_refl _)).mono hbx.size);have H' := Hh ((h'.below hbx (Nat.le_refl _)).mono hbx.size);clear hbx h h';by_cases ht : m.t = m'.t
 ·have t1 : (m.t == m'.t) = true := by simpa using ht
  have HD := Hh (show decide (m.it = m'.it) = decide (m.b = m'.b) by simp [MItem.it, ht]);clear ht;go_enter Tryz.func106, Tryz.ntmps106
  go_wp2_with fail;refine (equalB m.b m'.b m.a m'.a m.b.length m.c m'.b.length m'.c _ H.out H'.out).mono ?_;rintro e w3 ⟨rfl, hb3⟩;have HB3 := Hh (HBX.out.trans (hb3.mono HBX.out.size));clear hb3;go_wp2;go_ret;exact ⟨ret_bool HD.out.symm, HB3.out⟩
 ·have t1 : (m.t == m'.t) = false := by simpa using ht
  have HD := Hh (show decide (m.it = m'.it) = false by simp [MItem.it, ht]);clear ht;go_enter Tryz.func106, Tryz.ntmps106
  go_wp2;go_ret;exact ⟨ret_bool HD.out.symm, HBX.out⟩
theorem equalItems (ms ms' : List MItem) (a a' : Option Addr) (n c n' c' : Nat) (hnb : n ≤ 1000000) (w : World) (h : ItemsAt w w.heap.size a n c ms) (h' : ItemsAt w w.heap.size a' n' c' ms') :
  Calls Tryz.prog 105 #[.slice a n c, .slice a' n' c', .func (.func 106) #[] #[]] w fun e w' => e = .returned (.bool (decide (ms.map MItem.it = ms'.map MItem.it))) ∧ Below w.heap.size w w' := by
 obtain ⟨d, hd⟩ : ∃ d, d = decide (ms.map MItem.it = ms'.map MItem.it) := ⟨_, rfl⟩
 rw [← hd];have hl := h.len;have hl' := h'.len;have HD := Hh hd;have H := Hh h;have H' := Hh h';by_cases hn : n = n'
 ·subst hn;have t1 : ((n : Int) != (n : Int)) = false := by simp
  clear hd h h';go_enter Tryz.func105, Tryz.ntmps105
  go_wp2_with fail;go_loopw [17] (fun iv wr => ∃ j : Nat, j ≤ n ∧ iv = .int .i64 j ∧ (∀ k m m', k < j → ms[k]? = some m → ms'[k]? = some m' → m.it = m'.it) ∧ Below w.heap.size w wr) (fun iv _ => n - (intOf iv).toNat)
  case atStart => exact ⟨0, by omega, rfl, fun k _ _ hk => by omega, Below.refl _ _⟩
  case round =>
   obtain ⟨j, hj, rfl, hall, hbel⟩ := hrel;have HALL := Hh hall;have HB := Hh hbel;have hsz := hbel.size;clear hall hbel;by_cases hjn : j < n
   ·have t2 : decide (j < n) = true := by simpa using hjn
    obtain ⟨m, hm⟩ : ∃ m, ms[j]? = some m := ⟨_, List.getElem?_eq_getElem (by omega)⟩
    obtain ⟨m', hm'⟩ : ∃ m', ms'[j]? = some m' := ⟨_, List.getElem?_eq_getElem (by omega)⟩
    obtain ⟨b, o, rfl, hb, k0, k1⟩ := H.out.cell hm;obtain ⟨b', o', rfl, hb', k0', k1'⟩ := H'.out.cell hm';have hbs := H.out.bs m (List.mem_of_getElem? hm);have hbs' := H'.out.bs m' (List.mem_of_getElem? hm');have hmn : m.n = m.b.length := hbs.hlen.symm;have hmn' : m'.n = m'.b.length := hbs'.hlen.symm;have hbs : BsAt w w.heap.size m.a m.b.length m.c m.b := by rw [← hmn]; exact hbs
    have hbs' : BsAt w w.heap.size m'.a m'.b.length m'.c m'.b := by rw [← hmn']; exact hbs'
    rw [hmn] at k1;rw [hmn'] at k1';clear hmn hmn';have c0 : wr.cell? ⟨b, o + j * 2, none⟩ = some (.int .i64 m.t) := (HB.out.cell (p := ⟨b, o + j * 2, none⟩) hb).trans k0;have c1 : wr.cell? ⟨b, o + j * 2 + 1, none⟩ = some (.slice m.a m.b.length m.c) := (HB.out.cell (p := ⟨b, o + (j * 2 + 1), none⟩) hb).trans k1;have d0 : wr.cell? ⟨b', o' + j * 2, none⟩ = some (.int .i64 m'.t) := (HB.out.cell (p := ⟨b', o' + j * 2, none⟩) hb').trans k0';have d1 : wr.cell? ⟨b', o' + j * 2 + 1, none⟩ = some (.slice m'.a m'.b.length m'.c) := (HB.out.cell (p := ⟨b', o' + (j * 2 + 1), none⟩) hb').trans k1';have hj0 : (0 : Int) ≤ (j : Int) := by omega
    have hj1 : (j : Int) < (n : Int) := by omega
    have hbx := ((Below.refl _ wr).alloc (Nat.le_refl wr.heap.size) (.cells #[.int .i64 m.t, .slice m.a m.b.length m.c] 40)).alloc (by simp) (.cells #[.int .i64 m'.t, .slice m'.a m'.b.length m'.c] 40);have HBX := Hh (HB.out.trans (hbx.mono hsz));have HM := Hh hm;have HM' := Hh hm';have hbr : b < wr.heap.size := by omega
    have hbr' : b' < wr.heap.size := by omega
    have x0 : (wr.alloc (.cells #[.int .i64 m.t, .slice m.a m.b.length m.c] 40)).cell? ⟨b', o' + j * 2, none⟩ = some (.int .i64 m'.t) := (((Below.refl _ wr).alloc (Nat.le_refl _) _).cell (p := ⟨b', o' + j * 2, none⟩) hbr').trans d0;have x1 : (wr.alloc (.cells #[.int .i64 m.t, .slice m.a m.b.length m.c] 40)).cell? ⟨b', o' + j * 2 + 1, none⟩ = some (.slice m'.a m'.b.length m'.c) := (((Below.refl _ wr).alloc (Nat.le_refl _) _).cell (p := ⟨b', o' + j * 2 + 1, none⟩) hbr').trans d1;have HS := Hh ((hbs.below HBX.out (Nat.le_refl _)).mono HBX.out.size);have HS' := Hh ((hbs'.below HBX.out (Nat.le_refl _)).mono HBX.out.size);clear k0 k1 k0' k1' hbs hbs' hbx hm hm';go_wp2_with fail;refine (letSame1 m m' _ HS.out HS'.out).mono ?_;rintro e w3 ⟨rfl, hb3⟩;have HB3 := Hh (HBX.out.trans (hb3.mono HBX.out.size));clear hb3;by_cases he : m.it = m'.it
    ·rw [show decide (m.it = m'.it) = true from by simpa using he];have HN := Hh (show ∀ k x x', k < j + 1 → ms[k]? = some x → ms'[k]? = some x' → x.it = x'.it from fun k x x' hk hx hx' => by
      by_cases hkj : k < j
      ·exact HALL.out k x x' hkj hx hx'
      ·have : k = j := by omega
       subst this;rw [HM.out] at hx; rw [HM'.out] at hx';injection hx with hx; injection hx' with hx'
       subst hx hx';exact he)
     clear he;go_wp2;go_roundw
     case rel => exact ⟨j + 1, by omega, by go_num, HN.out, HB3.out⟩
     case measure => simp [intOf]; omega
    ·rw [show decide (m.it = m'.it) = false from by simpa using he];have hdf : d = false := by rw [HD.out, decide_eq_false_iff_not]; exact items_ne HM.out HM'.out he
     subst hdf;clear he;go_wp2;(try rw [Exit.noGoto_ret]);go_ret;exact ⟨rfl, HB3.out⟩
   ·have t2 : decide (j < n) = false := by simpa using hjn
    have hje : j = n := by omega
    subst hje;have hdt : d = true := by
     rw [HD.out, decide_eq_true_eq];exact items_ext (by omega) fun k x x' hx hx' => HALL.out k x x' (by have := (List.getElem?_eq_some_iff.1 hx).1; omega) hx hx'
    subst hdt;go_wp2;go_ret;exact ⟨rfl, HB.out⟩
 ·have t1 : ((n : Int) != (n' : Int)) = true := by simp; omega
  have hdf : d = false := by
   rw [hd, decide_eq_false_iff_not];intro e;have := congrArg List.length e;simp at this;omega
  subst hdf;clear h h' hd;go_enter Tryz.func105, Tryz.ntmps105
  go_wp2;go_ret;exact ⟨rfl, Below.refl _ _⟩
end Go.Proofs.YtogcnfhmcpkdcaaGreat
namespace Go.Proofs.YtogcnfhmcpkdcaaGreat
open Go.RowKit
set_option linter.unusedVariables false
set_option linter.unusedSimpArgs false
set_option maxRecDepth 100000 in
set_option maxHeartbeats 2000000 in
theorem letterSame (x z : PLet) (ia ia' : Option Addr) (ic ic' : Nat) (ms ms' : List MItem) (ba ba' : Option Addr) (bc bc' : Nat) (hn : ms.length ≤ 1000000) (w : World) (h : LetAt w w.heap.size x ia ic ms ba bc) (h' : LetAt w w.heap.size z ia' ic' ms' ba' bc') :
  Calls Tryz.prog 77 #[.agg (lcell x ia ms.length ic ba bc), .agg (lcell z ia' ms'.length ic' ba' bc')] w fun e w' => e = .returned (.bool (sameL x z)) ∧ Below w.heap.size w w' := by
 obtain ⟨W1, hW1⟩ : ∃ W1, W1 = (w.alloc (.cells (lcell x ia ms.length ic ba bc) 32)).alloc (.cells (lcell z ia' ms'.length ic' ba' bc') 32) := ⟨_, rfl⟩
 have HW1 := Hh hW1;have hs1 : W1.heap.size = w.heap.size + 2 := by rw [hW1]; simp
 have hb1 : Below w.heap.size w W1 := by rw [hW1]; exact ((Below.refl _ _).alloc (Nat.le_refl _) _).alloc (by simp) _
 have HR0 := Hh (show W1.heap[w.heap.size]? = some (.cells (lcell x ia ms.length ic ba bc) 32 (0, 0)) by
  rw [hW1];exact (((Below.refl _ _).alloc (Nat.le_refl (w.alloc (.cells (lcell x ia ms.length ic ba bc) 32)).heap.size) _).block _ (by simp)).trans (heap_alloc_new w _))
 have HR1 := Hh (show W1.heap[w.heap.size + 1]? = some (.cells (lcell z ia' ms'.length ic' ba' bc') 32 (0, 0)) by
  rw [hW1];have h9 := heap_alloc_new (w.alloc (.cells (lcell x ia ms.length ic ba bc) 32)) (.cells (lcell z ia' ms'.length ic' ba' bc') 32);simpa using h9)
 have HB1 := Hh hb1;have H := Hh ((h.below hb1 (Nat.le_refl _)).mono hb1.size);have H' := Hh ((h'.below hb1 (Nat.le_refl _)).mono hb1.size);obtain ⟨R, hR⟩ : ∃ R, sameL x z = R := ⟨_, rfl⟩
 rw [hR];obtain ⟨i0, hi0⟩ : ∃ i0, decide (x.its = z.its) = i0 := ⟨_, rfl⟩
 have HI0 := Hh (show decide (ms.map MItem.it = ms'.map MItem.it) = i0 by rw [h.eq, h'.eq]; exact hi0);cases i0 with
 | false =>
  have hRf : R = false := by rw [← hR]; simp only [sameL, hi0, Bool.false_and]
  have HRF := Hh hRf;clear hR hRf h h' hW1 hb1 hi0;go_enter Tryz.func77, Tryz.ntmps77
  go_wp2_with fail;rw [← HW1.out];refine (equalItems ms ms' ia ia' ms.length ic ms'.length ic' hn _ H.out.its H'.out.its).mono ?_;rintro e w3 ⟨rfl, hb3⟩;rw [HI0.out];have hs3 := hb3.size;have HB3 := Hh (HB1.out.trans (hb3.mono HB1.out.size));obtain ⟨c0, c1, c2, c3, c4, c5, c6, c7⟩ := letCells ((hb3.block w.heap.size (by omega)).trans HR0.out);obtain ⟨d0, d1, d2, d3, d4, d5, d6, d7⟩ := letCells ((hb3.block (w.heap.size + 1) (by omega)).trans HR1.out);have H3 := Hh ((H.out.below hb3 (Nat.le_refl _)).mono hb3.size);have H3' := Hh ((H'.out.below hb3 (Nat.le_refl _)).mono hb3.size);clear hb3;go_wp2;go_ret;exact ⟨ret_bool HRF.out.symm, HB3.out⟩
 | true =>
  by_cases q0 : x.k = z.k
  ·have t0 : (x.k == z.k) = true := by simpa using q0
   by_cases q1 : x.t = z.t
   ·have t1 : (x.t == z.t) = true := by simpa using q1
    by_cases q2 : x.a = z.a
    ·have t2 : (x.a == z.a) = true := by simpa using q2
     by_cases q3 : x.u = z.u
     ·have t3 : (x.u == z.u) = true := by simpa using q3
      by_cases q4 : x.o = z.o
      ·have t4 : (x.o == z.o) = true := by simpa using q4
       by_cases q5 : x.y = z.y
       ·have t5 : (x.y == z.y) = true := by simpa using q5
        have hRf : R = decide (x.b = z.b) := by rw [← hR]; simp [sameL, hi0, q0, q1, q2, q3, q4, q5]
        have HRF := Hh hRf;clear hR hRf h h' hW1 hb1 hi0 q0 q1 q2 q3 q4 q5;go_enter Tryz.func77, Tryz.ntmps77
        go_wp2_with fail;rw [← HW1.out];refine (equalItems ms ms' ia ia' ms.length ic ms'.length ic' hn _ H.out.its H'.out.its).mono ?_;rintro e w3 ⟨rfl, hb3⟩;rw [HI0.out];have hs3 := hb3.size;have HB3 := Hh (HB1.out.trans (hb3.mono HB1.out.size));obtain ⟨c0, c1, c2, c3, c4, c5, c6, c7⟩ := letCells ((hb3.block w.heap.size (by omega)).trans HR0.out);obtain ⟨d0, d1, d2, d3, d4, d5, d6, d7⟩ := letCells ((hb3.block (w.heap.size + 1) (by omega)).trans HR1.out);have H3 := Hh ((H.out.below hb3 (Nat.le_refl _)).mono hb3.size);have H3' := Hh ((H'.out.below hb3 (Nat.le_refl _)).mono hb3.size);clear hb3;go_wp2_with fail;refine (equalB x.b z.b ba ba' x.b.length bc z.b.length bc' _ H3.out.b H3'.out.b).mono ?_;rintro e w5 ⟨rfl, hb5⟩;have HB5 := Hh (HB3.out.trans (hb5.mono HB3.out.size));clear hb5 c0 c1 c2 c3 c4 c5 c6 c7 d0 d1 d2 d3 d4 d5 d6 d7;go_wp2;go_ret;exact ⟨ret_bool HRF.out.symm, HB5.out⟩
       ·have t5 : (x.y == z.y) = false := by simpa using q5
        have hRf : R = false := by rw [← hR]; simp [sameL, q5]
        have HRF := Hh hRf;clear hR hRf h h' hW1 hb1 hi0 q0 q1 q2 q3 q4 q5;go_enter Tryz.func77, Tryz.ntmps77
        go_wp2_with fail;rw [← HW1.out];refine (equalItems ms ms' ia ia' ms.length ic ms'.length ic' hn _ H.out.its H'.out.its).mono ?_;rintro e w3 ⟨rfl, hb3⟩;rw [HI0.out];have hs3 := hb3.size;have HB3 := Hh (HB1.out.trans (hb3.mono HB1.out.size));obtain ⟨c0, c1, c2, c3, c4, c5, c6, c7⟩ := letCells ((hb3.block w.heap.size (by omega)).trans HR0.out);obtain ⟨d0, d1, d2, d3, d4, d5, d6, d7⟩ := letCells ((hb3.block (w.heap.size + 1) (by omega)).trans HR1.out);have H3 := Hh ((H.out.below hb3 (Nat.le_refl _)).mono hb3.size);have H3' := Hh ((H'.out.below hb3 (Nat.le_refl _)).mono hb3.size);clear hb3;go_wp2;go_ret;exact ⟨ret_bool HRF.out.symm, HB3.out⟩
      ·have t4 : (x.o == z.o) = false := by simpa using q4
       have hRf : R = false := by rw [← hR]; simp [sameL, q4]
       have HRF := Hh hRf;clear hR hRf h h' hW1 hb1 hi0 q0 q1 q2 q3 q4;go_enter Tryz.func77, Tryz.ntmps77
       go_wp2_with fail;rw [← HW1.out];refine (equalItems ms ms' ia ia' ms.length ic ms'.length ic' hn _ H.out.its H'.out.its).mono ?_;rintro e w3 ⟨rfl, hb3⟩;rw [HI0.out];have hs3 := hb3.size;have HB3 := Hh (HB1.out.trans (hb3.mono HB1.out.size));obtain ⟨c0, c1, c2, c3, c4, c5, c6, c7⟩ := letCells ((hb3.block w.heap.size (by omega)).trans HR0.out);obtain ⟨d0, d1, d2, d3, d4, d5, d6, d7⟩ := letCells ((hb3.block (w.heap.size + 1) (by omega)).trans HR1.out);have H3 := Hh ((H.out.below hb3 (Nat.le_refl _)).mono hb3.size);have H3' := Hh ((H'.out.below hb3 (Nat.le_refl _)).mono hb3.size);clear hb3;go_wp2;go_ret;exact ⟨ret_bool HRF.out.symm, HB3.out⟩
     ·have t3 : (x.u == z.u) = false := by simpa using q3
      have hRf : R = false := by rw [← hR]; simp [sameL, q3]
      have HRF := Hh hRf;clear hR hRf h h' hW1 hb1 hi0 q0 q1 q2 q3;go_enter Tryz.func77, Tryz.ntmps77
      go_wp2_with fail;rw [← HW1.out];refine (equalItems ms ms' ia ia' ms.length ic ms'.length ic' hn _ H.out.its H'.out.its).mono ?_;rintro e w3 ⟨rfl, hb3⟩;rw [HI0.out];have hs3 := hb3.size;have HB3 := Hh (HB1.out.trans (hb3.mono HB1.out.size));obtain ⟨c0, c1, c2, c3, c4, c5, c6, c7⟩ := letCells ((hb3.block w.heap.size (by omega)).trans HR0.out);obtain ⟨d0, d1, d2, d3, d4, d5, d6, d7⟩ := letCells ((hb3.block (w.heap.size + 1) (by omega)).trans HR1.out);have H3 := Hh ((H.out.below hb3 (Nat.le_refl _)).mono hb3.size);have H3' := Hh ((H'.out.below hb3 (Nat.le_refl _)).mono hb3.size);clear hb3;go_wp2;go_ret;exact ⟨ret_bool HRF.out.symm, HB3.out⟩
    ·have t2 : (x.a == z.a) = false := by simpa using q2
     have hRf : R = false := by rw [← hR]; simp [sameL, q2]
     have HRF := Hh hRf;clear hR hRf h h' hW1 hb1 hi0 q0 q1 q2;go_enter Tryz.func77, Tryz.ntmps77
     go_wp2_with fail;rw [← HW1.out];refine (equalItems ms ms' ia ia' ms.length ic ms'.length ic' hn _ H.out.its H'.out.its).mono ?_;rintro e w3 ⟨rfl, hb3⟩;rw [HI0.out];have hs3 := hb3.size;have HB3 := Hh (HB1.out.trans (hb3.mono HB1.out.size));obtain ⟨c0, c1, c2, c3, c4, c5, c6, c7⟩ := letCells ((hb3.block w.heap.size (by omega)).trans HR0.out);obtain ⟨d0, d1, d2, d3, d4, d5, d6, d7⟩ := letCells ((hb3.block (w.heap.size + 1) (by omega)).trans HR1.out);have H3 := Hh ((H.out.below hb3 (Nat.le_refl _)).mono hb3.size);have H3' := Hh ((H'.out.below hb3 (Nat.le_refl _)).mono hb3.size);clear hb3;go_wp2;go_ret;exact ⟨ret_bool HRF.out.symm, HB3.out⟩
   ·have t1 : (x.t == z.t) = false := by simpa using q1
    have hRf : R = false := by rw [← hR]; simp [sameL, q1]
    have HRF := Hh hRf;clear hR hRf h h' hW1 hb1 hi0 q0 q1;go_enter Tryz.func77, Tryz.ntmps77
    go_wp2_with fail;rw [← HW1.out];refine (equalItems ms ms' ia ia' ms.length ic ms'.length ic' hn _ H.out.its H'.out.its).mono ?_;rintro e w3 ⟨rfl, hb3⟩;rw [HI0.out];have hs3 := hb3.size;have HB3 := Hh (HB1.out.trans (hb3.mono HB1.out.size));obtain ⟨c0, c1, c2, c3, c4, c5, c6, c7⟩ := letCells ((hb3.block w.heap.size (by omega)).trans HR0.out);obtain ⟨d0, d1, d2, d3, d4, d5, d6, d7⟩ := letCells ((hb3.block (w.heap.size + 1) (by omega)).trans HR1.out);have H3 := Hh ((H.out.below hb3 (Nat.le_refl _)).mono hb3.size);have H3' := Hh ((H'.out.below hb3 (Nat.le_refl _)).mono hb3.size);clear hb3;go_wp2;go_ret;exact ⟨ret_bool HRF.out.symm, HB3.out⟩
  ·have t0 : (x.k == z.k) = false := by simpa using q0
   have hRf : R = false := by rw [← hR]; simp [sameL, q0]
   have HRF := Hh hRf;clear hR hRf h h' hW1 hb1 hi0 q0;go_enter Tryz.func77, Tryz.ntmps77
   go_wp2_with fail;rw [← HW1.out];refine (equalItems ms ms' ia ia' ms.length ic ms'.length ic' hn _ H.out.its H'.out.its).mono ?_;rintro e w3 ⟨rfl, hb3⟩;rw [HI0.out];have hs3 := hb3.size;have HB3 := Hh (HB1.out.trans (hb3.mono HB1.out.size));obtain ⟨c0, c1, c2, c3, c4, c5, c6, c7⟩ := letCells ((hb3.block w.heap.size (by omega)).trans HR0.out);obtain ⟨d0, d1, d2, d3, d4, d5, d6, d7⟩ := letCells ((hb3.block (w.heap.size + 1) (by omega)).trans HR1.out);have H3 := Hh ((H.out.below hb3 (Nat.le_refl _)).mono hb3.size);have H3' := Hh ((H'.out.below hb3 (Nat.le_refl _)).mono hb3.size);clear hb3;go_wp2;go_ret;exact ⟨ret_bool HRF.out.symm, HB3.out⟩
end Go.Proofs.YtogcnfhmcpkdcaaGreat
