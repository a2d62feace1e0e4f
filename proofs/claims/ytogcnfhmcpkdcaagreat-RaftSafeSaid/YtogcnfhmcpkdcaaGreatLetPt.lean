/-
  Contract of letter.Put: the form of a letter, in a row of bytes of its own.
-/
import Derived.Test.YtogcnfhmcpkdcaaGreatLetPl
import Derived.Test.YtogcnfhmcpkdcaaGreatLetM2
import Derived.Test.YtogcnfhmcpkdcaaGreatPenZ
import Derived.Test.YtogcnfhmcpkdcaaGreatLineR
import Derived.Test.YtogcnfhmcpkdcaaGreatSlMem
namespace Go.Proofs.YtogcnfhmcpkdcaaGreat
open Go.RowKit
set_option linter.unusedVariables false
set_option linter.unusedSimpArgs false
def zv (n : Nat) : Value := .int .i64 (n : Int)
set_option maxRecDepth 100000 in
set_option maxHeartbeats 1000000 in
theorem letPut1 (q : Nat) (v : Value) (L : List UInt8) (hL : L.length ≤ 900000) (zs : List Nat) (hz : ∀ n ∈ zs, n ≤ 1099511627776) (hn : zs.length ≤ 10) (b : Nat) (w : World) (hp : PenAt 5 w q v L) (hc : ∀ i n, zs[i]? = some n → w.cell? ⟨b, i, none⟩ = some (zv n)) (hbl : b < w.heap.size) (hbq : b ≠ q) (hbv : v.ownBlock ≠ some b) :
  Calls Tryz.prog 100 #[.slice (some ⟨b, 0, none⟩) zs.length zs.length, .pointer (some ⟨q, 0, none⟩)] w fun e w' => e = .returned (.tuple #[]) ∧ ∃ v', PenAt 5 w' q v' (L ++ putNums zs) ∧ Penned q v w w' v' := by
 have HP := Hh hp;have HC := Hh hc;clear hp hc;go_enter Tryz.func100, Tryz.ntmps100
 go_wp2_with fail;go_loopw [7] (fun iv wr => ∃ (i : Nat) (v' : Value) (L' : List UInt8), iv = .int .i64 i ∧ i ≤ zs.length ∧ L' = L ++ putNums (zs.take i) ∧ PenAt 5 wr q v' L' ∧ Penned q v w wr v') (fun iv _ => zs.length - (intOf iv).toNat)
 case atStart => exact ⟨0, v, L, rfl, by omega, by simp [putNums], HP.out, Penned.refl _ _ _⟩
 case round =>
  obtain ⟨i, v', L', rfl, hi, hL', hpa, hpn⟩ := hrel;have HLL := Hh hL';have HPA := Hh hpa;have HPN := Hh hpn;clear hL' hpa hpn;by_cases hil : i < zs.length
  ·have ti : decide (i < zs.length) = true := by simpa using hil
   obtain ⟨n, hn9⟩ : ∃ n, zs[i]? = some n := ⟨_, List.getElem?_eq_getElem hil⟩
   have hnm := hz n (List.mem_of_getElem? hn9);have k0 : wr.cell? ⟨b, i, none⟩ = some (.int .i64 (n : Int)) := (World.cell?_of_block (a := ⟨b, i, none⟩) (HPN.out.block b hbl hbq hbv)).trans (HC.out i n hn9);have hi0 : (0 : Int) ≤ (i : Int) := by omega
   have hi1 : (i : Int) < (zs.length : Int) := by omega
   have hl9 : L'.length ≤ 1000000 := by
    have h8 := putNums_len (zs.take i) (fun m hm => hz m (List.mem_of_mem_take hm));have h7 : (zs.take i).length ≤ 10 := by simp; omega
    rw [HLL.out, List.length_append];omega
   have HN9 := Hh (show putNums (zs.take (i + 1)) = putNums (zs.take i) ++ putNum n from by
    have e : zs[i] = n := by rw [List.getElem?_eq_getElem hil] at hn9; injection hn9
    rw [List.take_succ_eq_append_getElem hil, e, putNums_snoc])
   clear hn9;go_wp2_with fail;refine (penNum q n (by omega) v' L' hl9 _ HPA.out).mono ?_;rintro e w5 ⟨rfl, v5, hp5, ht5⟩;have HP5 := Hh hp5;have HT5 := Hh (HPN.out.trans ht5);clear hp5 ht5 k0;go_wp2;go_roundw
   case rel => exact ⟨i + 1, v5, L' ++ putNum n, by go_num, hil, by rw [HLL.out, HN9.out, List.append_assoc], HP5.out, HT5.out⟩
   case measure => simp [intOf]; omega
  ·have ti : decide (i < zs.length) = false := by simpa using hil
   have hie : i = zs.length := by omega
   subst hie;have HLF := Hh (show L' = L ++ putNums zs by rw [HLL.out, List.take_length]);clear hil;go_wp2;go_end0;rw [← HLF.out];exact ⟨rfl, v', HPA.out, HPN.out⟩
theorem letFlag (y : Bool) (w : World) : Calls Tryz.prog 101 #[.bool y] w fun e w' => e = .returned (.int .u64 (if y then 1 else 0)) ∧ w = w' := by
 cases y
 all_goals
  go_enter Tryz.func101, Tryz.ntmps101
  go_wp2;go_ret;exact ⟨rfl, rfl⟩
theorem letNums (zs : List Nat) (hz : ∀ n ∈ zs, n ≤ 1099511627776) (hn : zs.length ≤ 10) (q : Nat) (v : Value) (L : List UInt8) (hL : L.length ≤ 900000) (wr A : World) (cs : Array Value) (T : TypeId) (hcs : cs = (zs.map zv).toArray) (hA : A = wr.alloc (.cells cs T)) (hp : PenAt 5 wr q v L) (s : Value) (hs : s = .slice (some ⟨wr.heap.size, 0, none⟩) zs.length zs.length) :
  Calls Tryz.prog 100 #[s, .pointer (some ⟨q, 0, none⟩)] A fun e w' => e = .returned (.tuple #[]) ∧ Wrote q wr w' L (putNums zs) (zs.length * 9) := by
 have hbA : Below wr.heap.size wr A := by rw [hA]; exact (Below.refl _ _).alloc (Nat.le_refl _) _
 have hrA : A.heap[wr.heap.size]? = some (.cells (zs.map zv).toArray T (0, 0)) := by rw [hA, ← hcs]; exact heap_alloc_new _ _
 have hsA : A.heap.size = wr.heap.size + 1 := by rw [hA]; simp
 have hpA := hp.below hbA;have hql := hp.lt;subst hs;refine (letPut1 q v L hL zs hz hn wr.heap.size A hpA (fun i n hi => ?_) (by omega) (by omega) (fun e => by have := (own_lt hp.own e).2; omega)).mono ?_
 ·refine cell_of_row A wr.heap.size i _ _ _ hrA |>.trans ?_;simp [hi]
 ·rintro e w' ⟨he, v', hp', ht⟩;refine ⟨he, v', _, rfl, ?_, hp', (hbA.mono (by omega)).trans (ht.below hpA (Nat.le_refl _))⟩;rw [List.length_append];have := putNums_len zs hz;omega
set_option maxRecDepth 100000 in
set_option maxHeartbeats 2000000 in
theorem letterPut (x : PLet) (ia : Option Addr) (ic : Nat) (ms : List MItem) (ba : Option Addr) (bc : Nat) (hn : ms.length ≤ 100000) (w : World) (h : LetAt w w.heap.size x ia ic ms ba bc) :
  Calls Tryz.prog 60 #[.agg (lcell x ia ms.length ic ba bc)] w fun e w' => ((rightL x = false ∧ e = .returned (.tuple #[.slice none 0 0, .bool false])) ∨ (rightL x = true ∧ ∃ a c, e = .returned (.tuple #[.slice a (putL x).length c, .bool true]) ∧ OwnBs 5 w' ⟨0, a, (putL x).length, c, putL x⟩)) ∧ Below w.heap.size w w' := by
 obtain ⟨W1, hW1⟩ : ∃ W1, W1 = w.alloc (.cells (lcell x ia ms.length ic ba bc) 32) := ⟨_, rfl⟩
 have HW1 := Hh hW1;have hs1 : W1.heap.size = w.heap.size + 1 := by rw [hW1]; simp
 have hb1 : Below w.heap.size w W1 := by rw [hW1]; exact (Below.refl _ _).alloc (Nat.le_refl _) _
 have hr0 : W1.heap[w.heap.size]? = some (.cells (lcell x ia ms.length ic ba bc) 32 (0, 0)) := by rw [hW1]; exact heap_alloc_new w _
 have HR0 := Hh hr0;have HB1 := Hh hb1;have H1 := Hh ((h.below hb1 (Nat.le_refl _)).mono hb1.size);clear hW1 hb1 h hr0;cases hR : rightL x with
 | false =>
  have HR := Hh hR;clear hR;go_enter Tryz.func60, Tryz.ntmps60
  go_wp2_with fail;rw [← HW1.out];refine (letterRight x ia ic ms ba bc hn _ H1.out).mono ?_;rintro e w3 ⟨rfl, hb3⟩;rw [HR.out];have HB3 := Hh (HB1.out.trans (hb3.mono HB1.out.size));clear hb3;go_wp2;(try rw [Exit.noGoto_ret]);go_ret2;exact ⟨.inl ⟨by first | rfl | trivial, rfl⟩, HB3.out⟩
 | true =>
  obtain ⟨K, T, A, U, O, hx, hK1, hK5, hT1, hA1, hU1, hO1, hil9, hbl9, hit9, hus⟩ := rightL_nat hR;obtain ⟨P, hP⟩ : ∃ P, putL x = P := ⟨_, rfl⟩
  rw [hP];have HR := Hh hR;have HRI := Hh hit9;have HUS := Hh hus;obtain ⟨y, hy⟩ : ∃ y, x.y = y := ⟨_, rfl⟩
  have HPL := Hh (show P = putNums [K, T] ++ (if K = 1 then putNums [A, U] else if K = 2 then putNum (yn y) else if K = 3 then putNums [A, U, O, ms.length] ++ putItems (ms.map MItem.it) else if K = 4 then putNum (yn y) ++ putNums [A, O] else putNums [A, U] ++ putText x.b) by
   rw [← hP, putL, H1.out.eq, H1.out.len, ← hy];rw [hx]
   simp
   norm_cast)
  have hml := H1.out.len;have hN : ms.length ≤ 16 := by omega
  have HML := Hh hml;have hlc : lcell x ia ms.length ic ba bc = #[.int .i64 K, .int .i64 T, .int .i64 A, .int .i64 U, .int .i64 O, .bool y, .slice ia ms.length ic, .slice ba x.b.length bc] := by rw [← hy]; rw [hx]
  have HLC := Hh hlc;clear hR hit9 hus hy hP hml hlc hx;go_enter Tryz.func60, Tryz.ntmps60
  go_wp2_with fail;rw [← HW1.out];refine (letterRight x ia ic ms ba bc hn _ H1.out).mono ?_;rintro e w3 ⟨rfl, hb3⟩;rw [HR.out];have HB3 := Hh (HB1.out.trans (hb3.mono HB1.out.size));have hs3 := hb3.size;have hr3 : w3.heap[w.heap.size]? = some (.cells #[.int .i64 K, .int .i64 T, .int .i64 A, .int .i64 U, .int .i64 O, .bool y, .slice ia ms.length ic, .slice ba x.b.length bc] 32 (0, 0)) := by rw [hb3.block w.heap.size (by omega), HR0.out, HLC.out]
  have HR3 := Hh hr3;have H3 := Hh ((H1.out.below hb3 (Nat.le_refl _)).mono hb3.size);have HPN := Hh (PenAt.new 86 w3);obtain ⟨w4, hw4⟩ : ∃ w4, w4 = w3.alloc (.cells #[.slice none 0 0] 86) := ⟨_, rfl⟩
  have Hw4 := Hh hw4;have HP4 := Hh (show PenAt 5 w4 w3.heap.size (.slice none 0 0) [] by rw [hw4]; exact HPN.out);have hb4 : Below w3.heap.size w3 w4 := by rw [hw4]; exact (Below.refl _ _).alloc (Nat.le_refl _) _
  have HB4 := Hh hb4;have d0 : w4.cell? ⟨w.heap.size, 0, none⟩ = some (.int .i64 K) := (hb4.cell (p := ⟨w.heap.size, 0, none⟩) (show w.heap.size < w3.heap.size by omega)).trans (cell_of_row w3 w.heap.size 0 _ _ _ hr3);have d1 : w4.cell? ⟨w.heap.size, 1, none⟩ = some (.int .i64 T) := (hb4.cell (p := ⟨w.heap.size, 1, none⟩) (show w.heap.size < w3.heap.size by omega)).trans (cell_of_row w3 w.heap.size 1 _ _ _ hr3);rw [hw4] at d0 d1;clear hb3 hr3 hw4 hb4;obtain ⟨v4, hv4⟩ : ∃ v : Value, v = .slice none 0 0 := ⟨_, rfl⟩
  obtain ⟨l4, hl4⟩ : ∃ l : List UInt8, l = [] := ⟨_, rfl⟩
  rw [← hv4, ← hl4] at HP4;have HL4 := Hh hl4;have hk4 : l4.length ≤ 0 := by rw [hl4]; simp
  clear hv4 hl4;obtain ⟨Y5, hY5⟩ : ∃ Y, Y = w4.alloc (.cells #[.int .i64 K, .int .i64 T] 3) := ⟨_, rfl⟩
  go_wp2_with fail;rw [← Hw4.out, ← hY5];refine (letNums [K, T] (fun n hn => by simp at hn; omega) (by simp) w3.heap.size v4 l4 (by omega) w4 Y5 _ _ (by simp [zv]) hY5 HP4.out _ (by rw [show w4.heap.size = w3.heap.size + 1 by rw [Hw4.out]; simp]; rfl)).mono ?_;rintro e w5 ⟨rfl, v5, l5, hl5, hn5, hp5, hb5⟩;have HB5 := Hh (HB4.out.trans hb5);have HL5 := Hh (show l5 = putNums [K, T] by rw [hl5, HL4.out]; (try simp [List.append_assoc]));have hk5 : l5.length ≤ 18 := by simp at hn5; omega
  have HP5 := Hh hp5;clear hp5 hb5 hl5 hn5 hY5 d0 d1;have hK : K = 1 ∨ K = 2 ∨ K = 3 ∨ K = 4 ∨ K = 5 := by omega
  clear hK1 hK5;rcases hK with rfl | rfl | rfl | rfl | rfl
  ·have d0 : w5.cell? ⟨w.heap.size, 0, none⟩ = some (.int .i64 1) := (HB5.out.cell (p := ⟨w.heap.size, 0, none⟩) (show w.heap.size < w3.heap.size by omega)).trans (cell_of_row w3 w.heap.size 0 _ _ _ HR3.out);have d2 : w5.cell? ⟨w.heap.size, 2, none⟩ = some (.int .i64 A) := (HB5.out.cell (p := ⟨w.heap.size, 2, none⟩) (show w.heap.size < w3.heap.size by omega)).trans (cell_of_row w3 w.heap.size 2 _ _ _ HR3.out);have d3 : w5.cell? ⟨w.heap.size, 3, none⟩ = some (.int .i64 U) := (HB5.out.cell (p := ⟨w.heap.size, 3, none⟩) (show w.heap.size < w3.heap.size by omega)).trans (cell_of_row w3 w.heap.size 3 _ _ _ HR3.out);obtain ⟨Y6, hY6⟩ : ∃ Y, Y = w5.alloc (.cells #[.int .i64 A, .int .i64 U] 3) := ⟨_, rfl⟩
   go_wp2_with fail;rw [← hY6];refine (letNums [A, U] (fun n hn => by simp at hn; omega) (by simp) w3.heap.size v5 l5 (by omega) w5 Y6 _ _ (by simp [zv]) hY6 HP5.out _ (by simp)).mono ?_;rintro e w6 ⟨rfl, v6, l6, hl6, hn6, hp6, hb6⟩;have HB6 := Hh (HB5.out.trans hb6);have HL6 := Hh (show l6 = putNums [1, T] ++ putNums [A, U] by rw [hl6, HL5.out]; (try simp [List.append_assoc]));have hk6 : l6.length ≤ 100 := by simp at hn6; omega
   have HP6 := Hh hp6;clear hp6 hb6 hl6 hn6 hY6 d0 d2 d3;have HF := Hh (show P = l6 by rw [HPL.out, HL6.out]; simp [List.append_assoc]);have hs9 := HB6.out.size;go_wp2_with fail;refine (penBytes w3.heap.size v6 l6 (by omega) _ HP6.out).mono ?_;rintro e w99 ⟨a9, c9, rfl, hbs9, hb9, how9⟩;have HBS9 := Hh (OwnBs.of_own (t := 0) how9 hbs9.hbig);have HB9 := Hh (HB3.out.trans ((HB6.out.trans (hb9.mono hs9)).mono (by omega)));clear hbs9 hb9 how9;go_wp2;go_ret2;rw [HF.out];exact ⟨.inr ⟨by first | rfl | trivial, a9, c9, rfl, HBS9.out⟩, HB9.out⟩
  ·have d0 : w5.cell? ⟨w.heap.size, 0, none⟩ = some (.int .i64 2) := (HB5.out.cell (p := ⟨w.heap.size, 0, none⟩) (show w.heap.size < w3.heap.size by omega)).trans (cell_of_row w3 w.heap.size 0 _ _ _ HR3.out);have d5 : w5.cell? ⟨w.heap.size, 5, none⟩ = some (.bool y) := (HB5.out.cell (p := ⟨w.heap.size, 5, none⟩) (show w.heap.size < w3.heap.size by omega)).trans (cell_of_row w3 w.heap.size 5 _ _ _ HR3.out);go_wp2_with fail;refine (letFlag y _).mono ?_;rintro e w9 ⟨rfl, rfl⟩;rw [show (if y = true then (1:Int) else 0) = ((yn y : Nat) : Int) by cases y <;> rfl];go_wp2_with fail;refine (penNumB w3.heap.size (yn y) (by cases y <;> simp [yn]) v5 l5 (by omega) _ HP5.out).mono ?_;rintro e w6 ⟨rfl, v6, l6, hl6, hn6, hp6, hb6⟩;have HB6 := Hh (HB5.out.trans hb6);have HL6 := Hh (show l6 = putNums [2, T] ++ putNum (yn y) by rw [hl6, HL5.out]; (try simp [List.append_assoc]));have hk6 : l6.length ≤ 100 := by omega
   have HP6 := Hh hp6;clear hp6 hb6 hl6 hn6 d0 d5;have HF := Hh (show P = l6 by rw [HPL.out, HL6.out]; simp [List.append_assoc]);have hs9 := HB6.out.size;go_wp2_with fail;refine (penBytes w3.heap.size v6 l6 (by omega) _ HP6.out).mono ?_;rintro e w99 ⟨a9, c9, rfl, hbs9, hb9, how9⟩;have HBS9 := Hh (OwnBs.of_own (t := 0) how9 hbs9.hbig);have HB9 := Hh (HB3.out.trans ((HB6.out.trans (hb9.mono hs9)).mono (by omega)));clear hbs9 hb9 how9;go_wp2;go_ret2;rw [HF.out];exact ⟨.inr ⟨by first | rfl | trivial, a9, c9, rfl, HBS9.out⟩, HB9.out⟩
  ·have d0 : w5.cell? ⟨w.heap.size, 0, none⟩ = some (.int .i64 3) := (HB5.out.cell (p := ⟨w.heap.size, 0, none⟩) (show w.heap.size < w3.heap.size by omega)).trans (cell_of_row w3 w.heap.size 0 _ _ _ HR3.out);have d2 : w5.cell? ⟨w.heap.size, 2, none⟩ = some (.int .i64 A) := (HB5.out.cell (p := ⟨w.heap.size, 2, none⟩) (show w.heap.size < w3.heap.size by omega)).trans (cell_of_row w3 w.heap.size 2 _ _ _ HR3.out);have d3 : w5.cell? ⟨w.heap.size, 3, none⟩ = some (.int .i64 U) := (HB5.out.cell (p := ⟨w.heap.size, 3, none⟩) (show w.heap.size < w3.heap.size by omega)).trans (cell_of_row w3 w.heap.size 3 _ _ _ HR3.out);have d4 : w5.cell? ⟨w.heap.size, 4, none⟩ = some (.int .i64 O) := (HB5.out.cell (p := ⟨w.heap.size, 4, none⟩) (show w.heap.size < w3.heap.size by omega)).trans (cell_of_row w3 w.heap.size 4 _ _ _ HR3.out);have d6 : w5.cell? ⟨w.heap.size, 6, none⟩ = some (.slice ia ms.length ic) := (HB5.out.cell (p := ⟨w.heap.size, 6, none⟩) (show w.heap.size < w3.heap.size by omega)).trans (cell_of_row w3 w.heap.size 6 _ _ _ HR3.out);obtain ⟨Y6, hY6⟩ : ∃ Y, Y = w5.alloc (.cells #[.int .i64 A, .int .i64 U, .int .i64 O, .int .i64 ms.length] 3) := ⟨_, rfl⟩
   go_wp2_with fail;rw [← hY6];refine (letNums [A, U, O, ms.length] (fun n hn => by simp at hn; omega) (by simp) w3.heap.size v5 l5 (by omega) w5 Y6 _ _ (by simp [zv]) hY6 HP5.out _ (by simp)).mono ?_;rintro e w6 ⟨rfl, v6, l6, hl6, hn6, hp6, hb6⟩;have HB6 := Hh (HB5.out.trans hb6);have HL6 := Hh (show l6 = putNums [3, T] ++ putNums [A, U, O, ms.length] by rw [hl6, HL5.out]; (try simp [List.append_assoc]));have hk6 : l6.length ≤ 100 := by simp at hn6; omega
   have HP6 := Hh hp6;clear hp6 hb6 hl6 hn6 hY6 d0 d2 d3 d4 d6;have d6 : w6.cell? ⟨w.heap.size, 6, none⟩ = some (.slice ia ms.length ic) := (HB6.out.cell (p := ⟨w.heap.size, 6, none⟩) (show w.heap.size < w3.heap.size by omega)).trans (cell_of_row w3 w.heap.size 6 _ _ _ HR3.out);go_wp2_with fail;go_loopw [53] (fun iv wr => ∃ (i : Nat) (v : Value) (L : List UInt8), iv = .int .i64 i ∧ i ≤ ms.length ∧ L = l6 ++ putItems ((ms.take i).map MItem.it) ∧ PenAt 5 wr w3.heap.size v L ∧ Below w3.heap.size w3 wr) (fun iv _ => ms.length - (intOf iv).toNat)
   case atStart => exact ⟨0, v6, l6, rfl, by omega, by simp [putItems], HP6.out, HB6.out⟩
   case round =>
    obtain ⟨i, v, L, rfl, hi, hL, hp, hbel⟩ := hrel;have HLL := Hh hL;have HP := Hh hp;have HB := Hh hbel;have hwr := hbel.size;have hbd : (putItems ((ms.take i).map MItem.it)).length ≤ 8300 * 16 := by
     have h1 := putItems_len ((ms.take i).map MItem.it) (fun it hit => HRI.out it (by
      rw [← H3.out.eq];obtain ⟨m, hm, rfl⟩ := List.mem_map.1 hit;exact List.mem_map_of_mem (List.mem_of_mem_take hm)))
     have h2 : ((ms.take i).map MItem.it).length ≤ 16 := by simp; omega
     have h3 : ((ms.take i).map MItem.it).length * 8300 ≤ 16 * 8300 := Nat.mul_le_mul_right _ h2;omega
    have hLl : L.length ≤ 900000 := by rw [hL, List.length_append]; omega
    clear hL hp hbel d6;by_cases hil : i < ms.length
    ·obtain ⟨m, hm⟩ : ∃ m, ms[i]? = some m := ⟨_, List.getElem?_eq_getElem hil⟩
     have hmm := List.mem_of_getElem? hm;have HM := Hh hm;have HIT := Hh H3.out.its;obtain ⟨b, o, rfl, hb, k0, k1⟩ := HIT.out.cell hm;have hbs := HIT.out.bs m hmm;have hmn : m.n = m.b.length := hbs.hlen.symm;have hmi := (rightI_iff _).1 (HRI.out m.it (by rw [← H3.out.eq]; exact List.mem_map_of_mem hmm));have hmb : m.b.length ≤ 8192 := hmi.2.2;have hmt : 0 ≤ m.t ∧ m.t ≤ 1099511627776 := ⟨hmi.1, hmi.2.1⟩
     rw [hmn] at k1;obtain ⟨M, hM⟩ : ∃ M : Nat, m.t = M := ⟨m.t.toNat, by omega⟩
     have hM1 : M ≤ 1099511627776 := by omega
     rw [hM] at k0;have c0 : wr.cell? ⟨b, o + i * 2, none⟩ = some (.int .i64 M) := (HB.out.cell (p := ⟨b, o + i * 2, none⟩) hb).trans k0;have c1 : wr.cell? ⟨b, o + i * 2 + 1, none⟩ = some (.slice m.a m.b.length m.c) := (HB.out.cell (p := ⟨b, o + (i * 2 + 1), none⟩) hb).trans k1;have HBM := Hh (show BsAt w3 w3.heap.size m.a m.b.length m.c m.b from by rw [← hmn]; exact hbs);have HMT := Hh (show m.t.toNat = M by omega);have tk : decide ((i : Int) < (ms.length : Int)) = true := by simpa using hil
     have hi0 : (0 : Int) ≤ (i : Int) := by omega
     have hi1 : (i : Int) < (ms.length : Int) := by omega
     obtain ⟨E, hE⟩ : ∃ E, E = wr.alloc (.cells #[.int .i64 M, .slice m.a m.b.length m.c] 40) := ⟨_, rfl⟩
     have hbA : Below wr.heap.size wr E := by rw [hE]; exact (Below.refl _ _).alloc (Nat.le_refl _) _
     have hrA : E.heap[wr.heap.size]? = some (.cells #[.int .i64 M, .slice m.a m.b.length m.c] 40 (0, 0)) := by rw [hE]; exact heap_alloc_new _ _
     have HA := Hh hE;have HRA := Hh hrA;have HBA := Hh (HB.out.trans (hbA.mono hwr));have HPA := Hh (HP.out.below hbA);have hsA : E.heap.size = wr.heap.size + 1 := by rw [hE]; simp
     have hqr : w3.heap.size < wr.heap.size := HP.out.lt;clear k0 k1 hm hmm hbs hmn hM hE hbA hrA hmi hmt;go_wp2_with fail;rw [← HA.out];refine (penNum w3.heap.size M (by omega) v L (by omega) _ HPA.out).mono ?_;rintro e w15 ⟨rfl, v15, hp5, ht5⟩;obtain ⟨l15, hl5⟩ : ∃ l5, l5 = L ++ putNum M := ⟨_, rfl⟩
     have hn5 : l15.length ≤ 900009 := by rw [hl5, List.length_append]; have := putNum_le9 (show M < 18446744073709551616 by omega); omega
     rw [← hl5] at hp5;have hr5 := (ht5.block wr.heap.size (by omega) (by omega) (fun e => by have := (own_lt HP.out.own e).2; omega)).trans HRA.out;have c5 : w15.cell? ⟨wr.heap.size, 1, none⟩ = some (.slice m.a m.b.length m.c) := cell_of_row w15 wr.heap.size 1 _ _ _ hr5;have HB15 := Hh (HBA.out.trans (ht5.below HPA.out (Nat.le_refl _)));have HL15 := Hh hl5;have HP15 := Hh hp5;have HBM5 := Hh (HBM.out.below HB15.out (Nat.le_refl _));clear hl5 hp5 ht5 hr5 c0 c1;go_wp2_with fail;refine (penTextB w3.heap.size v15 l15 (by omega) m.b m.a m.b.length m.c (by omega) _ HBM5.out HP15.out).mono ?_;rintro e w16 ⟨rfl, v16, l16, hl6, hn6, hp6, hb6⟩;have HB16 := Hh (HB15.out.trans hb6);have HL16 := Hh (show l16 = l6 ++ putItems ((ms.take (i + 1)).map MItem.it) by
      rw [hl6, HL15.out, HLL.out, putItems_take_succ HM.out, HMT.out];simp [List.append_assoc])
     have HP16 := Hh hp6;clear hl6 hn6 hp6 hb6 c5;go_wp2;go_roundw
     case rel => exact ⟨i + 1, v16, l16, by go_num, hil, HL16.out, HP16.out, HB16.out⟩
     case measure => simp [intOf]; omega
    ·have tk : decide ((i : Int) < (ms.length : Int)) = false := by simpa using hil
     have hie : i = ms.length := by omega
     subst hie;have HF := Hh (show P = L by rw [HPL.out, HLL.out, HL6.out, List.take_length]; simp [List.append_assoc]);clear hil;go_wp2_with fail;refine (penBytes w3.heap.size v L (by omega) _ HP.out).mono ?_;rintro e w99 ⟨a9, c9, rfl, hbs9, hb9, how9⟩;have HBS9 := Hh (OwnBs.of_own (t := 0) how9 hbs9.hbig);have HB9 := Hh (HB3.out.trans ((HB.out.trans (hb9.mono hwr)).mono (by omega)));clear hbs9 hb9 how9;go_wp2;go_ret2;rw [HF.out];exact ⟨.inr ⟨by first | rfl | trivial, a9, c9, rfl, HBS9.out⟩, HB9.out⟩
  ·have d0 : w5.cell? ⟨w.heap.size, 0, none⟩ = some (.int .i64 4) := (HB5.out.cell (p := ⟨w.heap.size, 0, none⟩) (show w.heap.size < w3.heap.size by omega)).trans (cell_of_row w3 w.heap.size 0 _ _ _ HR3.out);have d5 : w5.cell? ⟨w.heap.size, 5, none⟩ = some (.bool y) := (HB5.out.cell (p := ⟨w.heap.size, 5, none⟩) (show w.heap.size < w3.heap.size by omega)).trans (cell_of_row w3 w.heap.size 5 _ _ _ HR3.out);go_wp2_with fail;refine (letFlag y _).mono ?_;rintro e w9 ⟨rfl, rfl⟩;rw [show (if y = true then (1:Int) else 0) = ((yn y : Nat) : Int) by cases y <;> rfl];go_wp2_with fail;refine (penNumB w3.heap.size (yn y) (by cases y <;> simp [yn]) v5 l5 (by omega) _ HP5.out).mono ?_;rintro e w6 ⟨rfl, v6, l6, hl6, hn6, hp6, hb6⟩;have HB6 := Hh (HB5.out.trans hb6);have HL6 := Hh (show l6 = putNums [4, T] ++ putNum (yn y) by rw [hl6, HL5.out]; (try simp [List.append_assoc]));have hk6 : l6.length ≤ 100 := by omega
   have HP6 := Hh hp6;clear hp6 hb6 hl6 hn6 d0 d5;have d2 : w6.cell? ⟨w.heap.size, 2, none⟩ = some (.int .i64 A) := (HB6.out.cell (p := ⟨w.heap.size, 2, none⟩) (show w.heap.size < w3.heap.size by omega)).trans (cell_of_row w3 w.heap.size 2 _ _ _ HR3.out);have d4 : w6.cell? ⟨w.heap.size, 4, none⟩ = some (.int .i64 O) := (HB6.out.cell (p := ⟨w.heap.size, 4, none⟩) (show w.heap.size < w3.heap.size by omega)).trans (cell_of_row w3 w.heap.size 4 _ _ _ HR3.out);obtain ⟨Y7, hY7⟩ : ∃ Y, Y = w6.alloc (.cells #[.int .i64 A, .int .i64 O] 3) := ⟨_, rfl⟩
   go_wp2_with fail;rw [← hY7];refine (letNums [A, O] (fun n hn => by simp at hn; omega) (by simp) w3.heap.size v6 l6 (by omega) w6 Y7 _ _ (by simp [zv]) hY7 HP6.out _ (by simp)).mono ?_;rintro e w7 ⟨rfl, v7, l7, hl7, hn7, hp7, hb7⟩;have HB7 := Hh (HB6.out.trans hb7);have HL7 := Hh (show l7 = putNums [4, T] ++ putNum (yn y) ++ putNums [A, O] by rw [hl7, HL6.out]; (try simp [List.append_assoc]));have hk7 : l7.length ≤ 200 := by simp at hn7; omega
   have HP7 := Hh hp7;clear hp7 hb7 hl7 hn7 hY7 d2 d4;have HF := Hh (show P = l7 by rw [HPL.out, HL7.out]; simp [List.append_assoc]);have hs9 := HB7.out.size;go_wp2_with fail;refine (penBytes w3.heap.size v7 l7 (by omega) _ HP7.out).mono ?_;rintro e w99 ⟨a9, c9, rfl, hbs9, hb9, how9⟩;have HBS9 := Hh (OwnBs.of_own (t := 0) how9 hbs9.hbig);have HB9 := Hh (HB3.out.trans ((HB7.out.trans (hb9.mono hs9)).mono (by omega)));clear hbs9 hb9 how9;go_wp2;go_ret2;rw [HF.out];exact ⟨.inr ⟨by first | rfl | trivial, a9, c9, rfl, HBS9.out⟩, HB9.out⟩
  ·have d0 : w5.cell? ⟨w.heap.size, 0, none⟩ = some (.int .i64 5) := (HB5.out.cell (p := ⟨w.heap.size, 0, none⟩) (show w.heap.size < w3.heap.size by omega)).trans (cell_of_row w3 w.heap.size 0 _ _ _ HR3.out);have d2 : w5.cell? ⟨w.heap.size, 2, none⟩ = some (.int .i64 A) := (HB5.out.cell (p := ⟨w.heap.size, 2, none⟩) (show w.heap.size < w3.heap.size by omega)).trans (cell_of_row w3 w.heap.size 2 _ _ _ HR3.out);have d3 : w5.cell? ⟨w.heap.size, 3, none⟩ = some (.int .i64 U) := (HB5.out.cell (p := ⟨w.heap.size, 3, none⟩) (show w.heap.size < w3.heap.size by omega)).trans (cell_of_row w3 w.heap.size 3 _ _ _ HR3.out);obtain ⟨Y6, hY6⟩ : ∃ Y, Y = w5.alloc (.cells #[.int .i64 A, .int .i64 U] 3) := ⟨_, rfl⟩
   go_wp2_with fail;rw [← hY6];refine (letNums [A, U] (fun n hn => by simp at hn; omega) (by simp) w3.heap.size v5 l5 (by omega) w5 Y6 _ _ (by simp [zv]) hY6 HP5.out _ (by simp)).mono ?_;rintro e w6 ⟨rfl, v6, l6, hl6, hn6, hp6, hb6⟩;have HB6 := Hh (HB5.out.trans hb6);have HL6 := Hh (show l6 = putNums [5, T] ++ putNums [A, U] by rw [hl6, HL5.out]; (try simp [List.append_assoc]));have hk6 : l6.length ≤ 100 := by simp at hn6; omega
   have HP6 := Hh hp6;clear hp6 hb6 hl6 hn6 hY6 d0 d2 d3;have d7 : w6.cell? ⟨w.heap.size, 7, none⟩ = some (.slice ba x.b.length bc) := (HB6.out.cell (p := ⟨w.heap.size, 7, none⟩) (show w.heap.size < w3.heap.size by omega)).trans (cell_of_row w3 w.heap.size 7 _ _ _ HR3.out);have HTX7 := Hh (show BsAt w6 w3.heap.size ba x.b.length bc x.b from H3.out.b.below HB6.out (Nat.le_refl _));go_wp2_with fail;refine (penTextB w3.heap.size v6 l6 (by omega) x.b ba x.b.length bc (by omega) _ HTX7.out HP6.out).mono ?_;rintro e w7 ⟨rfl, v7, l7, hl7, hn7, hp7, hb7⟩;have HB7 := Hh (HB6.out.trans hb7);have HL7 := Hh (show l7 = putNums [5, T] ++ putNums [A, U] ++ putText x.b by rw [hl7, HL6.out]; (try simp [List.append_assoc]));have hk7 : l7.length ≤ 80000 := by omega
   have HP7 := Hh hp7;clear hp7 hb7 hl7 hn7 d7;have HF := Hh (show P = l7 by rw [HPL.out, HL7.out]; simp [List.append_assoc]);have hs9 := HB7.out.size;go_wp2_with fail;refine (penBytes w3.heap.size v7 l7 (by omega) _ HP7.out).mono ?_;rintro e w99 ⟨a9, c9, rfl, hbs9, hb9, how9⟩;have HBS9 := Hh (OwnBs.of_own (t := 0) how9 hbs9.hbig);have HB9 := Hh (HB3.out.trans ((HB7.out.trans (hb9.mono hs9)).mono (by omega)));clear hbs9 hb9 how9;go_wp2;go_ret2;rw [HF.out];exact ⟨.inr ⟨by first | rfl | trivial, a9, c9, rfl, HBS9.out⟩, HB9.out⟩
end Go.Proofs.YtogcnfhmcpkdcaaGreat
