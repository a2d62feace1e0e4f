/-
  Contracts of the reference's Same of items, and of Pick.
-/
import Derived.Test.YtogcnfhmcpkdcaaGreatLineM9
import Derived.Test.YtogcnfhmcpkdcaaGreatFieldM
namespace Go.Proofs.YtogcnfhmcpkdcaaGreat
open Go.RowKit
set_option linter.unusedVariables false
set_option linter.unusedSimpArgs false
structure SameS (b o b' o' j : Nat) (m m' : MItem) (w' : World) : Prop where
 g0 : w'.cell? ⟨b, o + j * 2, none⟩ = some (.int .i64 m.t)
 g1 : w'.cell? ⟨b', o' + j * 2, none⟩ = some (.int .i64 m'.t)
 g2 : w'.cell? ⟨b, o + j * 2 + 1, none⟩ = some (.slice m.a m.n m.c)
 g3 : w'.cell? ⟨b', o' + j * 2 + 1, none⟩ = some (.slice m'.a m'.n m'.c)
theorem SameS.keep {b o b' o' j : Nat} {m m' : MItem} {w w' : World} (h : SameS b o b' o' j m m' w) {N : Nat} (hb : Below N w w') (h1 : b < N) (h2 : b' < N) : SameS b o b' o' j m m' w' :=
 ⟨(hb.cell (p := ⟨b, _, none⟩) h1).trans h.g0, (hb.cell (p := ⟨b', _, none⟩) h2).trans h.g1, (hb.cell (p := ⟨b, _, none⟩) h1).trans h.g2, (hb.cell (p := ⟨b', _, none⟩) h2).trans h.g3⟩
theorem items_ext {ms ms' : List MItem} (hl : ms.length = ms'.length) (h : ∀ (j : Nat) (m m' : MItem), ms[j]? = some m → ms'[j]? = some m' → m.it = m'.it) : ms.map MItem.it = ms'.map MItem.it := by
 refine List.ext_getElem? (fun j => ?_);rw [List.getElem?_map, List.getElem?_map];by_cases hj : j < ms.length
 ·have hj' : j < ms'.length := by omega
  rw [List.getElem?_eq_getElem hj, List.getElem?_eq_getElem hj'];simp only [Option.map_some];rw [h j _ _ (List.getElem?_eq_getElem hj) (List.getElem?_eq_getElem hj')]
 ·rw [List.getElem?_eq_none (by omega), List.getElem?_eq_none (by omega)]
theorem items_ne {ms ms' : List MItem} {j : Nat} {m m' : MItem} (hm : ms[j]? = some m) (hm' : ms'[j]? = some m') (h : ¬ m.it = m'.it) : ¬ ms.map MItem.it = ms'.map MItem.it := by
 intro e;have := congrArg (fun l => l[j]?) e;simp only [List.getElem?_map, hm, hm', Option.map_some, Option.some.injEq] at this;exact h this
set_option maxRecDepth 100000 in
set_option maxHeartbeats 4000000 in
theorem r17Same (ms ms' : List MItem) (a a' : Option Addr) (n c n' c' : Nat) (hnb : n ≤ 1000000) (w : World) (h : ItemsAt w w.heap.size a n c ms) (h' : ItemsAt w w.heap.size a' n' c' ms') :
  Calls Tryz.prog 62 #[.slice a n c, .slice a' n' c'] w fun e w' => e = .returned (.bool (decide (ms.map MItem.it = ms'.map MItem.it))) ∧ Below w.heap.size w w' := by
 obtain ⟨d, hd⟩ : ∃ d, d = decide (ms.map MItem.it = ms'.map MItem.it) := ⟨_, rfl⟩
 rw [← hd];have hl := h.len;have hl' := h'.len;by_cases hn : n = n'
 ·subst hn;have t1 : ((n : Int) != (n : Int)) = false := by simp
  have HD := Hh hd;have H := Hh h;have H' := Hh h';clear hd h h';go_enter Tryz.func62, Tryz.ntmps62
  go_wp2_with fail;go_loopw [5] (fun iv wr => ∃ j : Nat, j ≤ n ∧ iv = .int .i64 j ∧ (∀ k m m', k < j → ms[k]? = some m → ms'[k]? = some m' → m.it = m'.it) ∧ Below w.heap.size w wr) (fun iv _ => n - (intOf iv).toNat)
  case atStart => exact ⟨0, by omega, rfl, fun k _ _ hk => by omega, Below.refl _ _⟩
  case round =>
   obtain ⟨j, hj, rfl, hall, hbel⟩ := hrel;have HALL := Hh hall;have HB := Hh hbel;have hsz := hbel.size;clear hall;by_cases hlt : j < n
   ·obtain ⟨m, hm⟩ : ∃ m, ms[j]? = some m := ⟨_, List.getElem?_eq_getElem (by omega)⟩
    obtain ⟨m', hm'⟩ : ∃ m', ms'[j]? = some m' := ⟨_, List.getElem?_eq_getElem (by omega)⟩
    obtain ⟨b, o, rfl, hb, k0, k1⟩ := H.out.cell hm;obtain ⟨b', o', rfl, hb', k0', k1'⟩ := H'.out.cell hm';have HS := Hh (show SameS b o b' o' j m m' wr from SameS.keep (w := w) ⟨k0, k0', k1, k1'⟩ hbel hb hb');have HBS := Hh (((H.out.bs m (List.mem_of_getElem? hm)).below hbel (Nat.le_refl _)).mono hsz);have HBS' := Hh (((H'.out.bs m' (List.mem_of_getElem? hm')).below hbel (Nat.le_refl _)).mono hsz);have HM := Hh hm;have HM' := Hh hm';have hj0 : (0 : Int) ≤ (j : Int) := by omega
    have hj1 : (j : Int) < (n : Int) := by omega
    clear k0 k1 k0' k1' hm hm' hbel;by_cases ht : m.t = m'.t
    ·have t2 : (m.t != m'.t) = false := by simp [ht]
     obtain ⟨e, he⟩ : ∃ e, e = decide (m.b = m'.b) := ⟨_, rfl⟩
     have HE := Hh he;have HT := Hh ht;clear ht he;go_wp2_with fail;refine OpR (S := SameS b o b' o' j m m') ?_;have hS0 : SameS b o b' o' j m m' wr.drew := HS.out.keep (N := w.heap.size) (Below.refl _ _).drew hb hb';refine hT 0 17 hS0 ?_;refine hT 1 18 hS0 ?_;refine hT 2 19 hS0 ?_;refine hT 3 20 hS0 ?_;refine hT 4 21 hS0 ?_;refine hT 5 22 hS0 ?_;refine hT 6 23 hS0 ?_;refine hT 7 24 hS0 ?_;refine hT 8 25 hS0 ?_;refine hT 9 26 hS0 ?_;refine hT 10 27 hS0 ?_;refine hT 11 28 hS0 ?_;refine hT 12 29 hS0 ?_;refine hT 13 30 hS0 ?_;refine hT 14 31 hS0 ?_;refine hT 15 32 hS0 ?_;refine hT 16 33 hS0 ?_;refine hT 17 34 hS0 ?_;refine hT 18 35 hS0 ?_;refine hT 19 36 hS0 ?_;refine hT 20 37 hS0 ?_;refine hT 21 38 hS0 ?_;refine Op1 22 ?_;go_simp;refine (r1Bytes m.b m'.b _ _ _ _ _ _ wr.drew (HBS.out.below (w' := wr.drew) (Below.refl _ _).drew (Nat.le_refl _)) (HBS'.out.below (w' := wr.drew) (Below.refl _ _).drew (Nat.le_refl _))).mono ?_;rintro e9 w3 ⟨rfl, hb3⟩;have hb3' : Below w.heap.size wr.drew w3 := hb3.mono hsz;have HB3 := Hh (HB.out.trans ((Below.refl _ _).drew.trans hb3'));have hS3 : SameS b o b' o' j m m' w3 := hS0.keep hb3' hb hb';rw [← HE.out];refine ⟨hS3, ?_⟩;clear hb3 hb3' hS0;refine hT 23 40 hS3 ?_;refine hT 24 41 hS3 ?_;refine OpE ?_;clear hS3;cases e
     ·have HF := Hh (show d = false by
       rw [HD.out];exact decide_eq_false (items_ne HM.out HM'.out (fun e => by have h9 := of_decide_eq_false HE.out.symm; exact h9 (Prod.mk.inj e).2)))
      go_wp2;go_ret;exact ⟨ret_bool HF.out.symm, HB3.out⟩
     ·have HF := Hh (show ∀ k m m', k < j + 1 → ms[k]? = some m → ms'[k]? = some m' → m.it = m'.it from fun k y y' hk hy hy' => by
       by_cases hkj : k < j
       ·exact HALL.out k y y' hkj hy hy'
       ·have hkj2 : k = j := by omega
        subst hkj2;rw [HM.out] at hy;rw [HM'.out] at hy';injection hy with hy
        injection hy' with hy'
        subst hy; subst hy';exact Prod.ext HT.out (of_decide_eq_true HE.out.symm))
      go_wp2;go_roundw
      case rel => exact ⟨j + 1, by omega, by go_num, HF.out, HB3.out⟩
      case measure => simp [intOf]; omega
    ·have t2 : (m.t != m'.t) = true := by simpa using ht
     have HF := Hh (show d = false by
      rw [HD.out];exact decide_eq_false (items_ne HM.out HM'.out (fun e => ht (Prod.mk.inj e).1)))
     clear ht;go_wp2_with fail;refine OpR (S := SameS b o b' o' j m m') ?_;have hS0 : SameS b o b' o' j m m' wr.drew := HS.out.keep (N := w.heap.size) (Below.refl _ _).drew hb hb';refine hT 0 17 hS0 ?_;refine hT 1 18 hS0 ?_;refine hT 2 19 hS0 ?_;refine hT 3 20 hS0 ?_;refine hT 4 21 hS0 ?_;refine hT 5 22 hS0 ?_;refine hT 6 23 hS0 ?_;refine hT 7 24 hS0 ?_;refine hT 8 25 hS0 ?_;refine hT 9 26 hS0 ?_;refine hT 10 27 hS0 ?_;refine hT 11 28 hS0 ?_;refine hN 12 29 hS0 ?_;refine hN 13 30 hS0 ?_;refine hN 14 31 hS0 ?_;refine hN 15 32 hS0 ?_;refine hN 16 33 hS0 ?_;refine hN 17 34 hS0 ?_;refine hN 18 35 hS0 ?_;refine hN 19 36 hS0 ?_;refine hN 20 37 hS0 ?_;refine hN 21 38 hS0 ?_;refine hN 22 39 hS0 ?_;refine hN 23 40 hS0 ?_;refine hT 24 41 hS0 ?_;refine OpE ?_;clear hS0;go_wp2;go_ret;exact ⟨ret_bool HF.out.symm, HB.out.trans (Below.refl _ _).drew⟩
   ·have hjn : j = n := by omega
    subst hjn;have HF := Hh (show d = true by
     rw [HD.out];exact decide_eq_true (items_ext (by omega) (fun k y y' hk hk' => HALL.out k y y' (by rw [← hl]; exact (List.getElem?_eq_some_iff.1 hk).1) hk hk')))
    clear hbel;go_wp2;go_ret;exact ⟨ret_bool HF.out.symm, HB.out⟩
 ·have t1 : ((n : Int) != (n' : Int)) = true := by simp; omega
  have HF := Hh (show d = false by
   rw [hd];exact decide_eq_false (fun e => by have := congrArg List.length e; simp at this; omega))
  clear h h' hd hn;go_enter Tryz.func62, Tryz.ntmps62
  go_wp2;go_ret;exact ⟨ret_bool HF.out.symm, Below.refl _ _⟩
end Go.Proofs.YtogcnfhmcpkdcaaGreat
