/-
  Contracts of the closure of letter.Put, of flag, and of the reference's num and yes.
  The plain form of a letter; contract of letter.Put.
  Contract of the reference's Put of letters.
  The plain reading of a letter: what is written is read as it was, and what is read has just its bytes. No walk.
-/
import Derived.Test.YtogcnfhmcpkdcaaPenB
import Derived.Test.YtogcnfhmcpkdcaaRefNum
import Derived.Test.YtogcnfhmcpkdcaaLetM2
import Derived.Test.YtogcnfhmcpkdcaaLineM4
namespace Go.Proofs.Ytogcnfhmcpkdcaa
open Go.RowKit
set_option linter.unusedVariables false
set_option linter.unusedSimpArgs false

def zv (n : Nat) : Value := .int .i64 (n : Int)
def putNums : List Nat → List UInt8
  | [] => []
  | n :: r => putNum n ++ putNums r
theorem putNums_snoc (l : List Nat) (n : Nat) : putNums (l ++ [n]) = putNums l ++ putNum n := by
  induction l with
  | nil => simp [putNums]
  | cons x r ih => simp [putNums, ih, List.append_assoc]
theorem putNums_len : ∀ (l : List Nat), (∀ n ∈ l, n ≤ 1099511627776) → (putNums l).length ≤ l.length * 9
  | [], _ => by simp [putNums]
  | n :: r, h => by
    have h1 := putNums_len r (fun m hm => h m (by simp [hm]))
    have h2 := putNum_le9 (show n < 18446744073709551616 by have := h n (by simp); omega)
    simp only [putNums, List.length_append, List.length_cons]
    omega

set_option maxRecDepth 100000 in
set_option maxHeartbeats 1000000 in
/-- the closure that writes numbers: the row of numbers lies apart from the pen and its row -/
theorem letPut1 (q : Nat) (v : Value) (L : List UInt8) (hL : L.length ≤ 900000) (zs : List Nat) (hz : ∀ n ∈ zs, n ≤ 1099511627776) (hn : zs.length ≤ 10) (b : Nat) (w : World) (hp : PenAt 5 w q v L) (hc : ∀ i n, zs[i]? = some n → w.cell? ⟨b, i, none⟩ = some (zv n)) (hbl : b < w.heap.size) (hbq : b ≠ q) (hbv : v.ownBlock ≠ some b) :
    Calls Try.prog 127 #[.slice (some ⟨b, 0, none⟩) zs.length zs.length, .pointer (some ⟨q, 0, none⟩)] w fun e w' => e = .returned (.tuple #[]) ∧ ∃ v', PenAt 5 w' q v' (L ++ putNums zs) ∧ Penned q v w w' v' := by
  have HP := Lib.hid hp
  have HC := Lib.hid hc
  clear hp hc
  go_enter Try.func127, Try.ntmps127
  go_wp2_with fail
  go_loopw [7] (fun iv wr => ∃ (i : Nat) (v' : Value) (L' : List UInt8), iv = .int .i64 i ∧ i ≤ zs.length ∧ L' = L ++ putNums (zs.take i) ∧ PenAt 5 wr q v' L' ∧ Penned q v w wr v') (fun iv _ => zs.length - (intOf iv).toNat)
  case atStart => exact ⟨0, v, L, rfl, by omega, by simp [putNums], HP.out, Penned.refl _ _ _⟩
  case round =>
    obtain ⟨i, v', L', rfl, hi, hL', hpa, hpn⟩ := hrel
    have HLL := Lib.hid hL'
    have HPA := Lib.hid hpa
    have HPN := Lib.hid hpn
    clear hL' hpa hpn
    by_cases hil : i < zs.length
    · have ti : decide (i < zs.length) = true := by simpa using hil
      obtain ⟨n, hn9⟩ : ∃ n, zs[i]? = some n := ⟨_, List.getElem?_eq_getElem hil⟩
      have hnm := hz n (List.mem_of_getElem? hn9)
      have k0 : wr.cell? ⟨b, i, none⟩ = some (.int .i64 (n : Int)) := (World.cell?_of_block (a := ⟨b, i, none⟩) (HPN.out.block b hbl hbq hbv)).trans (HC.out i n hn9)
      have hi0 : (0 : Int) ≤ (i : Int) := by omega
      have hi1 : (i : Int) < (zs.length : Int) := by omega
      have hl9 : L'.length ≤ 1000000 := by
        have h8 := putNums_len (zs.take i) (fun m hm => hz m (List.mem_of_mem_take hm))
        have h7 : (zs.take i).length ≤ 10 := by simp; omega
        rw [HLL.out, List.length_append]
        omega
      have HN9 := Lib.hid (show putNums (zs.take (i + 1)) = putNums (zs.take i) ++ putNum n from by
        have e : zs[i] = n := by rw [List.getElem?_eq_getElem hil] at hn9; injection hn9
        rw [List.take_succ_eq_append_getElem hil, e, putNums_snoc])
      clear hn9
      go_wp2_with fail
      refine (penNum q n (by omega) v' L' hl9 _ HPA.out).mono ?_
      rintro e w5 ⟨rfl, v5, hp5, ht5⟩
      have HP5 := Lib.hid hp5
      have HT5 := Lib.hid (HPN.out.trans ht5)
      clear hp5 ht5 k0
      go_wp2
      go_roundw
      case rel => exact ⟨i + 1, v5, L' ++ putNum n, by go_num, hil, by rw [HLL.out, HN9.out, List.append_assoc], HP5.out, HT5.out⟩
      case measure => simp [intOf]; omega
    · have ti : decide (i < zs.length) = false := by simpa using hil
      have hie : i = zs.length := by omega
      subst hie
      have HLF := Lib.hid (show L' = L ++ putNums zs by rw [HLL.out, List.take_length])
      clear hil
      go_wp2
      go_end0
      rw [← HLF.out]
      exact ⟨rfl, v', HPA.out, HPN.out⟩

theorem letFlag (y : Bool) (w : World) : Calls Try.prog 128 #[.bool y] w fun e w' => e = .returned (.int .u64 (if y then 1 else 0)) ∧ w = w' := by
  cases y
  all_goals
    go_enter Try.func128, Try.ntmps128
    go_wp2
    go_ret
    exact ⟨rfl, rfl⟩

theorem r15num (n : Nat) (hn : n ≤ 1099511627776) (w : World) :
    Calls Try.prog 136 #[.int .i64 n] w fun e w' => ∃ a c, e = .returned (.slice a (putNum n).length c) ∧ w'.ownsRow w.heap.size 5 1 (.slice a (putNum n).length c) (putNum n).length ((putNum n).map bv) ∧ Below w.heap.size w w' := by
  have wn : IntKind.u64.wrap (n : Int) = n := IntWalk.u64_in _ (by omega)
  go_enter Try.func136, Try.ntmps136
  go_wp2_with fail
  refine (refNum n (by omega) _).mono ?_
  rintro e w3 ⟨a, c, rfl, hown, hb⟩
  have HO := Lib.hid hown
  have HB := Lib.hid hb
  clear hown hb
  go_wp2
  go_ret
  exact ⟨a, c, rfl, HO.out, HB.out⟩

theorem r15yes (y : Bool) (w : World) :
    Calls Try.prog 137 #[.bool y] w fun e w' => ∃ a c, e = .returned (.slice a (putNum (if y then 1 else 0)).length c) ∧ w'.ownsRow w.heap.size 5 1 (.slice a (putNum (if y then 1 else 0)).length c) (putNum (if y then 1 else 0)).length ((putNum (if y then 1 else 0)).map bv) ∧ Below w.heap.size w w' := by
  cases y with
  | false =>
    go_enter Try.func137, Try.ntmps137
    go_wp2_with fail
    refine (r15num 0 (by omega) _).mono ?_
    rintro e w3 ⟨a, c, rfl, hown, hb⟩
    have HO := Lib.hid hown
    have HB := Lib.hid hb
    clear hown hb
    go_wp2
    go_ret
    exact ⟨a, c, rfl, HO.out, HB.out⟩
  | true =>
    go_enter Try.func137, Try.ntmps137
    go_wp2_with fail
    refine (r15num 1 (by omega) _).mono ?_
    rintro e w3 ⟨a, c, rfl, hown, hb⟩
    have HO := Lib.hid hown
    have HB := Lib.hid hb
    clear hown hb
    go_wp2
    go_ret
    exact ⟨a, c, rfl, HO.out, HB.out⟩
end Go.Proofs.Ytogcnfhmcpkdcaa

namespace Go.Proofs.Ytogcnfhmcpkdcaa
open Go.RowKit
set_option linter.unusedVariables false
set_option linter.unusedSimpArgs false

def yn (y : Bool) : Nat := if y then 1 else 0
/-- a letter's form -/
def putL (x : PLet) : List UInt8 :=
  putNums [x.k.toNat, x.t.toNat] ++
  (if x.k = 1 then putNums [x.a.toNat, x.u.toNat]
  else if x.k = 2 then putNum (yn x.y)
  else if x.k = 3 then putNums [x.a.toNat, x.u.toNat, x.o.toNat, x.its.length] ++ putItems x.its
  else if x.k = 4 then putNum (yn x.y) ++ putNums [x.a.toNat, x.o.toNat]
  else putNums [x.a.toNat, x.u.toNat] ++ putText x.b)

theorem inM_iff (n : Int) : inM n = true ↔ 0 ≤ n ∧ n ≤ 1099511627776 := by simp [inM]

theorem rightL_nat {x : PLet} (h : rightL x = true) : ∃ K T A U O : Nat, x = ⟨K, T, A, U, O, x.y, x.its, x.b⟩ ∧ 1 ≤ K ∧ K ≤ 5 ∧ T ≤ 1099511627776 ∧ A ≤ 1099511627776 ∧ U ≤ 1099511627776 ∧ O ≤ 1099511627776 ∧ x.its.length ≤ 16 ∧ x.b.length ≤ 65536 ∧ (∀ it ∈ x.its, rightI it = true) ∧ x = usedL x := by
  simp only [rightL, Bool.and_eq_true, decide_eq_true_eq, inM_iff, sameL_iff, Bool.not_eq_true', List.any_eq_false, Bool.not_eq_true] at h
  obtain ⟨⟨h1, h2, h3⟩, ⟨⟨h4, h5⟩, h6⟩, ⟨h7, h8⟩, h9, h10⟩ := h
  refine ⟨x.k.toNat, x.t.toNat, x.a.toNat, x.u.toNat, x.o.toNat, ?_, by omega, by omega, by omega, by omega, by omega, by omega, h7, h8, fun it hit => by simpa using h9 it hit, h10⟩
  rw [show ((x.k.toNat : Nat) : Int) = x.k by omega, show ((x.t.toNat : Nat) : Int) = x.t by omega, show ((x.a.toNat : Nat) : Int) = x.a by omega, show ((x.u.toNat : Nat) : Int) = x.u by omega, show ((x.o.toNat : Nat) : Int) = x.o by omega]

theorem putItems_len : ∀ (l : List PItem), (∀ it ∈ l, rightI it = true) → (putItems l).length ≤ l.length * 8300
  | [], _ => by simp [putItems]
  | it :: r, h => by
    have h1 := putItems_len r (fun j hj => h j (by simp [hj]))
    have h2 := (rightI_iff it).1 (h it (by simp))
    have h3 := putNum_le9 (show it.1.toNat < 18446744073709551616 by omega)
    have h4 := putNum_le9 (show it.2.length < 18446744073709551616 by omega)
    simp only [putItems, putText, List.length_append, List.length_cons]
    omega

/-- the closure that writes numbers, called with a slice built just ahead -/
theorem letNums (zs : List Nat) (hz : ∀ n ∈ zs, n ≤ 1099511627776) (hn : zs.length ≤ 10) (q : Nat) (v : Value) (L : List UInt8) (hL : L.length ≤ 900000) (wr A : World) (cs : Array Value) (T : TypeId) (hcs : cs = (zs.map zv).toArray) (hA : A = wr.alloc (.cells cs T)) (hp : PenAt 5 wr q v L) (s : Value) (hs : s = .slice (some ⟨wr.heap.size, 0, none⟩) zs.length zs.length) :
    Calls Try.prog 127 #[s, .pointer (some ⟨q, 0, none⟩)] A fun e w' => e = .returned (.tuple #[]) ∧ Wrote q wr w' L (putNums zs) (zs.length * 9) := by
  have hbA : Below wr.heap.size wr A := by rw [hA]; exact (Below.refl _ _).alloc (Nat.le_refl _) _
  have hrA : A.heap[wr.heap.size]? = some (.cells (zs.map zv).toArray T (0, 0)) := by rw [hA, ← hcs]; exact heap_alloc_new _ _
  have hsA : A.heap.size = wr.heap.size + 1 := by rw [hA]; simp
  have hpA := hp.below hbA
  have hql := hp.lt
  subst hs
  refine (letPut1 q v L hL zs hz hn wr.heap.size A hpA (fun i n hi => ?_) (by omega) (by omega) (fun e => by have := (own_lt hp.own e).2; omega)).mono ?_
  · refine cell_of_row A wr.heap.size i _ _ _ hrA |>.trans ?_
    simp [hi]
  · rintro e w' ⟨he, v', hp', ht⟩
    refine ⟨he, v', _, rfl, ?_, hp', (hbA.mono (by omega)).trans (ht.below hpA (Nat.le_refl _))⟩
    rw [List.length_append]
    have := putNums_len zs hz
    omega

set_option maxRecDepth 100000 in
set_option maxHeartbeats 2000000 in
theorem letterPut (x : PLet) (ia : Option Addr) (ic : Nat) (ms : List MItem) (ba : Option Addr) (bc : Nat) (hn : ms.length ≤ 100000) (w : World) (h : LetAt w w.heap.size x ia ic ms ba bc) :
    Calls Try.prog 71 #[.agg (lcell x ia ms.length ic ba bc)] w fun e w' => ((rightL x = false ∧ e = .returned (.tuple #[.slice none 0 0, .bool false])) ∨ (rightL x = true ∧ ∃ a c, e = .returned (.tuple #[.slice a (putL x).length c, .bool true]) ∧ BsAt w' w'.heap.size a (putL x).length c (putL x))) ∧ Below w.heap.size w w' := by
  obtain ⟨W1, hW1⟩ : ∃ W1, W1 = w.alloc (.cells (lcell x ia ms.length ic ba bc) 111) := ⟨_, rfl⟩
  have HW1 := Lib.hid hW1
  have hs1 : W1.heap.size = w.heap.size + 1 := by rw [hW1]; simp
  have hb1 : Below w.heap.size w W1 := by rw [hW1]; exact (Below.refl _ _).alloc (Nat.le_refl _) _
  have hr0 : W1.heap[w.heap.size]? = some (.cells (lcell x ia ms.length ic ba bc) 111 (0, 0)) := by rw [hW1]; exact heap_alloc_new w _
  have HR0 := Lib.hid hr0
  have HB1 := Lib.hid hb1
  have H1 := Lib.hid ((h.below hb1 (Nat.le_refl _)).mono hb1.size)
  clear hW1 hb1 h hr0
  cases hR : rightL x with
  | false =>
    have HR := Lib.hid hR
    clear hR
    go_enter Try.func71, Try.ntmps71
    go_wp2_with fail
    rw [← HW1.out]
    refine (letterRight x ia ic ms ba bc hn _ H1.out).mono ?_
    rintro e w3 ⟨rfl, hb3⟩
    rw [HR.out]
    have HB3 := Lib.hid (HB1.out.trans (hb3.mono HB1.out.size))
    clear hb3
    go_wp2
    (try rw [Exit.noGoto_ret])
    go_ret2
    exact ⟨.inl ⟨by first | rfl | trivial, rfl⟩, HB3.out⟩
  | true =>
    obtain ⟨K, T, A, U, O, hx, hK1, hK5, hT1, hA1, hU1, hO1, hil9, hbl9, hit9, hus⟩ := rightL_nat hR
    obtain ⟨P, hP⟩ : ∃ P, putL x = P := ⟨_, rfl⟩
    rw [hP]
    have HR := Lib.hid hR
    have HRI := Lib.hid hit9
    have HUS := Lib.hid hus
    obtain ⟨y, hy⟩ : ∃ y, x.y = y := ⟨_, rfl⟩
    have HPL := Lib.hid (show P = putNums [K, T] ++ (if K = 1 then putNums [A, U] else if K = 2 then putNum (yn y) else if K = 3 then putNums [A, U, O, ms.length] ++ putItems (ms.map MItem.it) else if K = 4 then putNum (yn y) ++ putNums [A, O] else putNums [A, U] ++ putText x.b) by
      rw [← hP, putL, H1.out.eq, H1.out.len, ← hy]
      rw [hx]
      simp
      norm_cast)
    have hml := H1.out.len
    have hN : ms.length ≤ 16 := by omega
    have HML := Lib.hid hml
    have hlc : lcell x ia ms.length ic ba bc = #[.int .i64 K, .int .i64 T, .int .i64 A, .int .i64 U, .int .i64 O, .bool y, .slice ia ms.length ic, .slice ba x.b.length bc] := by rw [← hy]; rw [hx]
    have HLC := Lib.hid hlc
    clear hR hit9 hus hy hP hml hlc hx
    go_enter Try.func71, Try.ntmps71
    go_wp2_with fail
    rw [← HW1.out]
    refine (letterRight x ia ic ms ba bc hn _ H1.out).mono ?_
    rintro e w3 ⟨rfl, hb3⟩
    rw [HR.out]
    have HB3 := Lib.hid (HB1.out.trans (hb3.mono HB1.out.size))
    have hs3 := hb3.size
    have hr3 : w3.heap[w.heap.size]? = some (.cells #[.int .i64 K, .int .i64 T, .int .i64 A, .int .i64 U, .int .i64 O, .bool y, .slice ia ms.length ic, .slice ba x.b.length bc] 111 (0, 0)) := by rw [hb3.block w.heap.size (by omega), HR0.out, HLC.out]
    have HR3 := Lib.hid hr3
    have H3 := Lib.hid ((H1.out.below hb3 (Nat.le_refl _)).mono hb3.size)
    have HPN := Lib.hid (PenAt.new 36 w3)
    obtain ⟨w4, hw4⟩ : ∃ w4, w4 = w3.alloc (.cells #[.slice none 0 0] 36) := ⟨_, rfl⟩
    have Hw4 := Lib.hid hw4
    have HP4 := Lib.hid (show PenAt 5 w4 w3.heap.size (.slice none 0 0) [] by rw [hw4]; exact HPN.out)
    have hb4 : Below w3.heap.size w3 w4 := by rw [hw4]; exact (Below.refl _ _).alloc (Nat.le_refl _) _
    have HB4 := Lib.hid hb4
    have d0 : w4.cell? ⟨w.heap.size, 0, none⟩ = some (.int .i64 K) := (hb4.cell (p := ⟨w.heap.size, 0, none⟩) (show w.heap.size < w3.heap.size by omega)).trans (cell_of_row w3 w.heap.size 0 _ _ _ hr3)
    have d1 : w4.cell? ⟨w.heap.size, 1, none⟩ = some (.int .i64 T) := (hb4.cell (p := ⟨w.heap.size, 1, none⟩) (show w.heap.size < w3.heap.size by omega)).trans (cell_of_row w3 w.heap.size 1 _ _ _ hr3)
    rw [hw4] at d0 d1
    clear hb3 hr3 hw4 hb4
    obtain ⟨v4, hv4⟩ : ∃ v : Value, v = .slice none 0 0 := ⟨_, rfl⟩
    obtain ⟨l4, hl4⟩ : ∃ l : List UInt8, l = [] := ⟨_, rfl⟩
    rw [← hv4, ← hl4] at HP4
    have HL4 := Lib.hid hl4
    have hk4 : l4.length ≤ 0 := by rw [hl4]; simp
    clear hv4 hl4
    obtain ⟨Y5, hY5⟩ : ∃ Y, Y = w4.alloc (.cells #[.int .i64 K, .int .i64 T] 3) := ⟨_, rfl⟩
    go_wp2_with fail
    rw [← Hw4.out, ← hY5]
    refine (letNums [K, T] (fun n hn => by simp at hn; omega) (by simp) w3.heap.size v4 l4 (by omega) w4 Y5 _ _ (by simp [zv]) hY5 HP4.out _ (by rw [show w4.heap.size = w3.heap.size + 1 by rw [Hw4.out]; simp]; rfl)).mono ?_
    rintro e w5 ⟨rfl, v5, l5, hl5, hn5, hp5, hb5⟩
    have HB5 := Lib.hid (HB4.out.trans hb5)
    have HL5 := Lib.hid (show l5 = putNums [K, T] by rw [hl5, HL4.out]; (try simp [List.append_assoc]))
    have hk5 : l5.length ≤ 18 := by simp at hn5; omega
    have HP5 := Lib.hid hp5
    clear hp5 hb5 hl5 hn5 hY5 d0 d1
    have hK : K = 1 ∨ K = 2 ∨ K = 3 ∨ K = 4 ∨ K = 5 := by omega
    clear hK1 hK5
    rcases hK with rfl | rfl | rfl | rfl | rfl
    · have d0 : w5.cell? ⟨w.heap.size, 0, none⟩ = some (.int .i64 1) := (HB5.out.cell (p := ⟨w.heap.size, 0, none⟩) (show w.heap.size < w3.heap.size by omega)).trans (cell_of_row w3 w.heap.size 0 _ _ _ HR3.out)
      have d2 : w5.cell? ⟨w.heap.size, 2, none⟩ = some (.int .i64 A) := (HB5.out.cell (p := ⟨w.heap.size, 2, none⟩) (show w.heap.size < w3.heap.size by omega)).trans (cell_of_row w3 w.heap.size 2 _ _ _ HR3.out)
      have d3 : w5.cell? ⟨w.heap.size, 3, none⟩ = some (.int .i64 U) := (HB5.out.cell (p := ⟨w.heap.size, 3, none⟩) (show w.heap.size < w3.heap.size by omega)).trans (cell_of_row w3 w.heap.size 3 _ _ _ HR3.out)
      obtain ⟨Y6, hY6⟩ : ∃ Y, Y = w5.alloc (.cells #[.int .i64 A, .int .i64 U] 3) := ⟨_, rfl⟩
      go_wp2_with fail
      rw [← hY6]
      refine (letNums [A, U] (fun n hn => by simp at hn; omega) (by simp) w3.heap.size v5 l5 (by omega) w5 Y6 _ _ (by simp [zv]) hY6 HP5.out _ (by simp)).mono ?_
      rintro e w6 ⟨rfl, v6, l6, hl6, hn6, hp6, hb6⟩
      have HB6 := Lib.hid (HB5.out.trans hb6)
      have HL6 := Lib.hid (show l6 = putNums [1, T] ++ putNums [A, U] by rw [hl6, HL5.out]; (try simp [List.append_assoc]))
      have hk6 : l6.length ≤ 100 := by simp at hn6; omega
      have HP6 := Lib.hid hp6
      clear hp6 hb6 hl6 hn6 hY6 d0 d2 d3
      have HF := Lib.hid (show P = l6 by rw [HPL.out, HL6.out]; simp [List.append_assoc])
      have hs9 := HB6.out.size
      go_wp2_with fail
      refine (penBytes w3.heap.size v6 l6 (by omega) _ HP6.out).mono ?_
      rintro e w99 ⟨a9, c9, rfl, hbs9, hb9, -⟩
      have HBS9 := Lib.hid hbs9
      have HB9 := Lib.hid (HB3.out.trans ((HB6.out.trans (hb9.mono hs9)).mono (by omega)))
      clear hbs9 hb9
      go_wp2
      go_ret2
      rw [HF.out]
      exact ⟨.inr ⟨by first | rfl | trivial, a9, c9, rfl, HBS9.out⟩, HB9.out⟩
    · have d0 : w5.cell? ⟨w.heap.size, 0, none⟩ = some (.int .i64 2) := (HB5.out.cell (p := ⟨w.heap.size, 0, none⟩) (show w.heap.size < w3.heap.size by omega)).trans (cell_of_row w3 w.heap.size 0 _ _ _ HR3.out)
      have d5 : w5.cell? ⟨w.heap.size, 5, none⟩ = some (.bool y) := (HB5.out.cell (p := ⟨w.heap.size, 5, none⟩) (show w.heap.size < w3.heap.size by omega)).trans (cell_of_row w3 w.heap.size 5 _ _ _ HR3.out)
      go_wp2_with fail
      refine (letFlag y _).mono ?_
      rintro e w9 ⟨rfl, rfl⟩
      rw [show (if y = true then (1:Int) else 0) = ((yn y : Nat) : Int) by cases y <;> rfl]
      go_wp2_with fail
      refine (penNumB w3.heap.size (yn y) (by cases y <;> simp [yn]) v5 l5 (by omega) _ HP5.out).mono ?_
      rintro e w6 ⟨rfl, v6, l6, hl6, hn6, hp6, hb6⟩
      have HB6 := Lib.hid (HB5.out.trans hb6)
      have HL6 := Lib.hid (show l6 = putNums [2, T] ++ putNum (yn y) by rw [hl6, HL5.out]; (try simp [List.append_assoc]))
      have hk6 : l6.length ≤ 100 := by omega
      have HP6 := Lib.hid hp6
      clear hp6 hb6 hl6 hn6 d0 d5
      have HF := Lib.hid (show P = l6 by rw [HPL.out, HL6.out]; simp [List.append_assoc])
      have hs9 := HB6.out.size
      go_wp2_with fail
      refine (penBytes w3.heap.size v6 l6 (by omega) _ HP6.out).mono ?_
      rintro e w99 ⟨a9, c9, rfl, hbs9, hb9, -⟩
      have HBS9 := Lib.hid hbs9
      have HB9 := Lib.hid (HB3.out.trans ((HB6.out.trans (hb9.mono hs9)).mono (by omega)))
      clear hbs9 hb9
      go_wp2
      go_ret2
      rw [HF.out]
      exact ⟨.inr ⟨by first | rfl | trivial, a9, c9, rfl, HBS9.out⟩, HB9.out⟩
    · have d0 : w5.cell? ⟨w.heap.size, 0, none⟩ = some (.int .i64 3) := (HB5.out.cell (p := ⟨w.heap.size, 0, none⟩) (show w.heap.size < w3.heap.size by omega)).trans (cell_of_row w3 w.heap.size 0 _ _ _ HR3.out)
      have d2 : w5.cell? ⟨w.heap.size, 2, none⟩ = some (.int .i64 A) := (HB5.out.cell (p := ⟨w.heap.size, 2, none⟩) (show w.heap.size < w3.heap.size by omega)).trans (cell_of_row w3 w.heap.size 2 _ _ _ HR3.out)
      have d3 : w5.cell? ⟨w.heap.size, 3, none⟩ = some (.int .i64 U) := (HB5.out.cell (p := ⟨w.heap.size, 3, none⟩) (show w.heap.size < w3.heap.size by omega)).trans (cell_of_row w3 w.heap.size 3 _ _ _ HR3.out)
      have d4 : w5.cell? ⟨w.heap.size, 4, none⟩ = some (.int .i64 O) := (HB5.out.cell (p := ⟨w.heap.size, 4, none⟩) (show w.heap.size < w3.heap.size by omega)).trans (cell_of_row w3 w.heap.size 4 _ _ _ HR3.out)
      have d6 : w5.cell? ⟨w.heap.size, 6, none⟩ = some (.slice ia ms.length ic) := (HB5.out.cell (p := ⟨w.heap.size, 6, none⟩) (show w.heap.size < w3.heap.size by omega)).trans (cell_of_row w3 w.heap.size 6 _ _ _ HR3.out)
      obtain ⟨Y6, hY6⟩ : ∃ Y, Y = w5.alloc (.cells #[.int .i64 A, .int .i64 U, .int .i64 O, .int .i64 ms.length] 3) := ⟨_, rfl⟩
      go_wp2_with fail
      rw [← hY6]
      refine (letNums [A, U, O, ms.length] (fun n hn => by simp at hn; omega) (by simp) w3.heap.size v5 l5 (by omega) w5 Y6 _ _ (by simp [zv]) hY6 HP5.out _ (by simp)).mono ?_
      rintro e w6 ⟨rfl, v6, l6, hl6, hn6, hp6, hb6⟩
      have HB6 := Lib.hid (HB5.out.trans hb6)
      have HL6 := Lib.hid (show l6 = putNums [3, T] ++ putNums [A, U, O, ms.length] by rw [hl6, HL5.out]; (try simp [List.append_assoc]))
      have hk6 : l6.length ≤ 100 := by simp at hn6; omega
      have HP6 := Lib.hid hp6
      clear hp6 hb6 hl6 hn6 hY6 d0 d2 d3 d4 d6
      have d6 : w6.cell? ⟨w.heap.size, 6, none⟩ = some (.slice ia ms.length ic) := (HB6.out.cell (p := ⟨w.heap.size, 6, none⟩) (show w.heap.size < w3.heap.size by omega)).trans (cell_of_row w3 w.heap.size 6 _ _ _ HR3.out)
      go_wp2_with fail
      go_loopw [53] (fun iv wr => ∃ (i : Nat) (v : Value) (L : List UInt8), iv = .int .i64 i ∧ i ≤ ms.length ∧ L = l6 ++ putItems ((ms.take i).map MItem.it) ∧ PenAt 5 wr w3.heap.size v L ∧ Below w3.heap.size w3 wr) (fun iv _ => ms.length - (intOf iv).toNat)
      case atStart => exact ⟨0, v6, l6, rfl, by omega, by simp [putItems], HP6.out, HB6.out⟩
      case round =>
        obtain ⟨i, v, L, rfl, hi, hL, hp, hbel⟩ := hrel
        have HLL := Lib.hid hL
        have HP := Lib.hid hp
        have HB := Lib.hid hbel
        have hwr := hbel.size
        have hbd : (putItems ((ms.take i).map MItem.it)).length ≤ 8300 * 16 := by
          have h1 := putItems_len ((ms.take i).map MItem.it) (fun it hit => HRI.out it (by
            rw [← H3.out.eq]
            obtain ⟨m, hm, rfl⟩ := List.mem_map.1 hit
            exact List.mem_map_of_mem (List.mem_of_mem_take hm)))
          have h2 : ((ms.take i).map MItem.it).length ≤ 16 := by simp; omega
          have h3 : ((ms.take i).map MItem.it).length * 8300 ≤ 16 * 8300 := Nat.mul_le_mul_right _ h2
          omega
        have hLl : L.length ≤ 900000 := by rw [hL, List.length_append]; omega
        clear hL hp hbel d6
        by_cases hil : i < ms.length
        · obtain ⟨m, hm⟩ : ∃ m, ms[i]? = some m := ⟨_, List.getElem?_eq_getElem hil⟩
          have hmm := List.mem_of_getElem? hm
          have HM := Lib.hid hm
          have HIT := Lib.hid H3.out.its
          obtain ⟨b, o, rfl, hb, k0, k1⟩ := HIT.out.cell hm
          have hbs := HIT.out.bs m hmm
          have hmn : m.n = m.b.length := hbs.hlen.symm
          have hmi := (rightI_iff _).1 (HRI.out m.it (by rw [← H3.out.eq]; exact List.mem_map_of_mem hmm))
          have hmb : m.b.length ≤ 8192 := hmi.2.2
          have hmt : 0 ≤ m.t ∧ m.t ≤ 1099511627776 := ⟨hmi.1, hmi.2.1⟩
          rw [hmn] at k1
          obtain ⟨M, hM⟩ : ∃ M : Nat, m.t = M := ⟨m.t.toNat, by omega⟩
          have hM1 : M ≤ 1099511627776 := by omega
          rw [hM] at k0
          have c0 : wr.cell? ⟨b, o + i * 2, none⟩ = some (.int .i64 M) := (HB.out.cell (p := ⟨b, o + i * 2, none⟩) hb).trans k0
          have c1 : wr.cell? ⟨b, o + i * 2 + 1, none⟩ = some (.slice m.a m.b.length m.c) := (HB.out.cell (p := ⟨b, o + (i * 2 + 1), none⟩) hb).trans k1
          have HBM := Lib.hid (show BsAt w3 w3.heap.size m.a m.b.length m.c m.b from by rw [← hmn]; exact hbs)
          have HMT := Lib.hid (show m.t.toNat = M by omega)
          have tk : decide ((i : Int) < (ms.length : Int)) = true := by simpa using hil
          have hi0 : (0 : Int) ≤ (i : Int) := by omega
          have hi1 : (i : Int) < (ms.length : Int) := by omega
          obtain ⟨E, hE⟩ : ∃ E, E = wr.alloc (.cells #[.int .i64 M, .slice m.a m.b.length m.c] 45) := ⟨_, rfl⟩
          have hbA : Below wr.heap.size wr E := by rw [hE]; exact (Below.refl _ _).alloc (Nat.le_refl _) _
          have hrA : E.heap[wr.heap.size]? = some (.cells #[.int .i64 M, .slice m.a m.b.length m.c] 45 (0, 0)) := by rw [hE]; exact heap_alloc_new _ _
          have HA := Lib.hid hE
          have HRA := Lib.hid hrA
          have HBA := Lib.hid (HB.out.trans (hbA.mono hwr))
          have HPA := Lib.hid (HP.out.below hbA)
          have hsA : E.heap.size = wr.heap.size + 1 := by rw [hE]; simp
          have hqr : w3.heap.size < wr.heap.size := HP.out.lt
          clear k0 k1 hm hmm hbs hmn hM hE hbA hrA hmi hmt
          go_wp2_with fail
          rw [← HA.out]
          refine (penNum w3.heap.size M (by omega) v L (by omega) _ HPA.out).mono ?_
          rintro e w15 ⟨rfl, v15, hp5, ht5⟩
          obtain ⟨l15, hl5⟩ : ∃ l5, l5 = L ++ putNum M := ⟨_, rfl⟩
          have hn5 : l15.length ≤ 900009 := by rw [hl5, List.length_append]; have := putNum_le9 (show M < 18446744073709551616 by omega); omega
          rw [← hl5] at hp5
          have hr5 := (ht5.block wr.heap.size (by omega) (by omega) (fun e => by have := (own_lt HP.out.own e).2; omega)).trans HRA.out
          have c5 : w15.cell? ⟨wr.heap.size, 1, none⟩ = some (.slice m.a m.b.length m.c) := cell_of_row w15 wr.heap.size 1 _ _ _ hr5
          have HB15 := Lib.hid (HBA.out.trans (ht5.below HPA.out (Nat.le_refl _)))
          have HL15 := Lib.hid hl5
          have HP15 := Lib.hid hp5
          have HBM5 := Lib.hid (HBM.out.below HB15.out (Nat.le_refl _))
          clear hl5 hp5 ht5 hr5 c0 c1
          go_wp2_with fail
          refine (penTextB w3.heap.size v15 l15 (by omega) m.b m.a m.b.length m.c (by omega) _ HBM5.out HP15.out).mono ?_
          rintro e w16 ⟨rfl, v16, l16, hl6, hn6, hp6, hb6⟩
          have HB16 := Lib.hid (HB15.out.trans hb6)
          have HL16 := Lib.hid (show l16 = l6 ++ putItems ((ms.take (i + 1)).map MItem.it) by
            rw [hl6, HL15.out, HLL.out, putItems_take_succ HM.out, HMT.out]
            simp [List.append_assoc])
          have HP16 := Lib.hid hp6
          clear hl6 hn6 hp6 hb6 c5
          go_wp2
          go_roundw
          case rel => exact ⟨i + 1, v16, l16, by go_num, hil, HL16.out, HP16.out, HB16.out⟩
          case measure => simp [intOf]; omega
        · have tk : decide ((i : Int) < (ms.length : Int)) = false := by simpa using hil
          have hie : i = ms.length := by omega
          subst hie
          have HF := Lib.hid (show P = L by rw [HPL.out, HLL.out, HL6.out, List.take_length]; simp [List.append_assoc])
          clear hil
          go_wp2_with fail
          refine (penBytes w3.heap.size v L (by omega) _ HP.out).mono ?_
          rintro e w99 ⟨a9, c9, rfl, hbs9, hb9, -⟩
          have HBS9 := Lib.hid hbs9
          have HB9 := Lib.hid (HB3.out.trans ((HB.out.trans (hb9.mono hwr)).mono (by omega)))
          clear hbs9 hb9
          go_wp2
          go_ret2
          rw [HF.out]
          exact ⟨.inr ⟨by first | rfl | trivial, a9, c9, rfl, HBS9.out⟩, HB9.out⟩
    · have d0 : w5.cell? ⟨w.heap.size, 0, none⟩ = some (.int .i64 4) := (HB5.out.cell (p := ⟨w.heap.size, 0, none⟩) (show w.heap.size < w3.heap.size by omega)).trans (cell_of_row w3 w.heap.size 0 _ _ _ HR3.out)
      have d5 : w5.cell? ⟨w.heap.size, 5, none⟩ = some (.bool y) := (HB5.out.cell (p := ⟨w.heap.size, 5, none⟩) (show w.heap.size < w3.heap.size by omega)).trans (cell_of_row w3 w.heap.size 5 _ _ _ HR3.out)
      go_wp2_with fail
      refine (letFlag y _).mono ?_
      rintro e w9 ⟨rfl, rfl⟩
      rw [show (if y = true then (1:Int) else 0) = ((yn y : Nat) : Int) by cases y <;> rfl]
      go_wp2_with fail
      refine (penNumB w3.heap.size (yn y) (by cases y <;> simp [yn]) v5 l5 (by omega) _ HP5.out).mono ?_
      rintro e w6 ⟨rfl, v6, l6, hl6, hn6, hp6, hb6⟩
      have HB6 := Lib.hid (HB5.out.trans hb6)
      have HL6 := Lib.hid (show l6 = putNums [4, T] ++ putNum (yn y) by rw [hl6, HL5.out]; (try simp [List.append_assoc]))
      have hk6 : l6.length ≤ 100 := by omega
      have HP6 := Lib.hid hp6
      clear hp6 hb6 hl6 hn6 d0 d5
      have d2 : w6.cell? ⟨w.heap.size, 2, none⟩ = some (.int .i64 A) := (HB6.out.cell (p := ⟨w.heap.size, 2, none⟩) (show w.heap.size < w3.heap.size by omega)).trans (cell_of_row w3 w.heap.size 2 _ _ _ HR3.out)
      have d4 : w6.cell? ⟨w.heap.size, 4, none⟩ = some (.int .i64 O) := (HB6.out.cell (p := ⟨w.heap.size, 4, none⟩) (show w.heap.size < w3.heap.size by omega)).trans (cell_of_row w3 w.heap.size 4 _ _ _ HR3.out)
      obtain ⟨Y7, hY7⟩ : ∃ Y, Y = w6.alloc (.cells #[.int .i64 A, .int .i64 O] 3) := ⟨_, rfl⟩
      go_wp2_with fail
      rw [← hY7]
      refine (letNums [A, O] (fun n hn => by simp at hn; omega) (by simp) w3.heap.size v6 l6 (by omega) w6 Y7 _ _ (by simp [zv]) hY7 HP6.out _ (by simp)).mono ?_
      rintro e w7 ⟨rfl, v7, l7, hl7, hn7, hp7, hb7⟩
      have HB7 := Lib.hid (HB6.out.trans hb7)
      have HL7 := Lib.hid (show l7 = putNums [4, T] ++ putNum (yn y) ++ putNums [A, O] by rw [hl7, HL6.out]; (try simp [List.append_assoc]))
      have hk7 : l7.length ≤ 200 := by simp at hn7; omega
      have HP7 := Lib.hid hp7
      clear hp7 hb7 hl7 hn7 hY7 d2 d4
      have HF := Lib.hid (show P = l7 by rw [HPL.out, HL7.out]; simp [List.append_assoc])
      have hs9 := HB7.out.size
      go_wp2_with fail
      refine (penBytes w3.heap.size v7 l7 (by omega) _ HP7.out).mono ?_
      rintro e w99 ⟨a9, c9, rfl, hbs9, hb9, -⟩
      have HBS9 := Lib.hid hbs9
      have HB9 := Lib.hid (HB3.out.trans ((HB7.out.trans (hb9.mono hs9)).mono (by omega)))
      clear hbs9 hb9
      go_wp2
      go_ret2
      rw [HF.out]
      exact ⟨.inr ⟨by first | rfl | trivial, a9, c9, rfl, HBS9.out⟩, HB9.out⟩
    · have d0 : w5.cell? ⟨w.heap.size, 0, none⟩ = some (.int .i64 5) := (HB5.out.cell (p := ⟨w.heap.size, 0, none⟩) (show w.heap.size < w3.heap.size by omega)).trans (cell_of_row w3 w.heap.size 0 _ _ _ HR3.out)
      have d2 : w5.cell? ⟨w.heap.size, 2, none⟩ = some (.int .i64 A) := (HB5.out.cell (p := ⟨w.heap.size, 2, none⟩) (show w.heap.size < w3.heap.size by omega)).trans (cell_of_row w3 w.heap.size 2 _ _ _ HR3.out)
      have d3 : w5.cell? ⟨w.heap.size, 3, none⟩ = some (.int .i64 U) := (HB5.out.cell (p := ⟨w.heap.size, 3, none⟩) (show w.heap.size < w3.heap.size by omega)).trans (cell_of_row w3 w.heap.size 3 _ _ _ HR3.out)
      obtain ⟨Y6, hY6⟩ : ∃ Y, Y = w5.alloc (.cells #[.int .i64 A, .int .i64 U] 3) := ⟨_, rfl⟩
      go_wp2_with fail
      rw [← hY6]
      refine (letNums [A, U] (fun n hn => by simp at hn; omega) (by simp) w3.heap.size v5 l5 (by omega) w5 Y6 _ _ (by simp [zv]) hY6 HP5.out _ (by simp)).mono ?_
      rintro e w6 ⟨rfl, v6, l6, hl6, hn6, hp6, hb6⟩
      have HB6 := Lib.hid (HB5.out.trans hb6)
      have HL6 := Lib.hid (show l6 = putNums [5, T] ++ putNums [A, U] by rw [hl6, HL5.out]; (try simp [List.append_assoc]))
      have hk6 : l6.length ≤ 100 := by simp at hn6; omega
      have HP6 := Lib.hid hp6
      clear hp6 hb6 hl6 hn6 hY6 d0 d2 d3
      have d7 : w6.cell? ⟨w.heap.size, 7, none⟩ = some (.slice ba x.b.length bc) := (HB6.out.cell (p := ⟨w.heap.size, 7, none⟩) (show w.heap.size < w3.heap.size by omega)).trans (cell_of_row w3 w.heap.size 7 _ _ _ HR3.out)
      have HTX7 := Lib.hid (show BsAt w6 w3.heap.size ba x.b.length bc x.b from H3.out.b.below HB6.out (Nat.le_refl _))
      go_wp2_with fail
      refine (penTextB w3.heap.size v6 l6 (by omega) x.b ba x.b.length bc (by omega) _ HTX7.out HP6.out).mono ?_
      rintro e w7 ⟨rfl, v7, l7, hl7, hn7, hp7, hb7⟩
      have HB7 := Lib.hid (HB6.out.trans hb7)
      have HL7 := Lib.hid (show l7 = putNums [5, T] ++ putNums [A, U] ++ putText x.b by rw [hl7, HL6.out]; (try simp [List.append_assoc]))
      have hk7 : l7.length ≤ 80000 := by omega
      have HP7 := Lib.hid hp7
      clear hp7 hb7 hl7 hn7 d7
      have HF := Lib.hid (show P = l7 by rw [HPL.out, HL7.out]; simp [List.append_assoc])
      have hs9 := HB7.out.size
      go_wp2_with fail
      refine (penBytes w3.heap.size v7 l7 (by omega) _ HP7.out).mono ?_
      rintro e w99 ⟨a9, c9, rfl, hbs9, hb9, -⟩
      have HBS9 := Lib.hid hbs9
      have HB9 := Lib.hid (HB3.out.trans ((HB7.out.trans (hb9.mono hs9)).mono (by omega)))
      clear hbs9 hb9
      go_wp2
      go_ret2
      rw [HF.out]
      exact ⟨.inr ⟨by first | rfl | trivial, a9, c9, rfl, HBS9.out⟩, HB9.out⟩
end Go.Proofs.Ytogcnfhmcpkdcaa

namespace Go.Proofs.Ytogcnfhmcpkdcaa
open Go.RowKit
set_option linter.unusedVariables false
set_option linter.unusedSimpArgs false

/-- two cells of a box -/
structure C2 (g i j : Nat) (u v : Value) (W : World) : Prop where
  c0 : W.cell? ⟨g, i, none⟩ = some u
  c1 : W.cell? ⟨g, j, none⟩ = some v
theorem C2.keep {g i j : Nat} {u v : Value} {W W' : World} (h : C2 g i j u v W) {N : Nat} (hb : Below N W W') (hg : g < N) : C2 g i j u v W' := ⟨(hb.cell (p := ⟨g, _, none⟩) hg).trans h.c0, (hb.cell (p := ⟨g, _, none⟩) hg).trans h.c1⟩
/-- what the drawn region of the loop reads -/
structure L3 (g : Nat) (sl : Value) (b o : Nat) (t : Int) (v : Value) (W : World) : Prop where
  g6 : W.cell? ⟨g, 6, none⟩ = some sl
  k0 : W.cell? ⟨b, o, none⟩ = some (.int .i64 t)
  k1 : W.cell? ⟨b, o + 1, none⟩ = some v
theorem L3.keep {g : Nat} {sl : Value} {b o : Nat} {t : Int} {v : Value} {W W' : World} (h : L3 g sl b o t v W) {N : Nat} (hb : Below N W W') (h1 : g < N) (h2 : b < N) : L3 g sl b o t v W' :=
  ⟨(hb.cell (p := ⟨g, _, none⟩) h1).trans h.g6, (hb.cell (p := ⟨b, _, none⟩) h2).trans h.k0, (hb.cell (p := ⟨b, _, none⟩) h2).trans h.k1⟩

set_option maxRecDepth 100000 in
set_option maxHeartbeats 2000000 in
theorem r15Put (x : PLet) (ia : Option Addr) (ic : Nat) (ms : List MItem) (ba : Option Addr) (bc : Nat) (hR : rightL x = true) (w : World) (h : LetAt w w.heap.size x ia ic ms ba bc) :
    Calls Try.prog 75 #[.agg (lcell x ia ms.length ic ba bc)] w fun e w' => ∃ a c, e = .returned (.slice a (putL x).length c) ∧ BsAt w' w'.heap.size a (putL x).length c (putL x) ∧ Below w.heap.size w w' := by
  obtain ⟨i0, hi, hz0, hz1, hz2⟩ := info_parts infoU8
  obtain ⟨W1, hW1⟩ : ∃ W1, W1 = w.alloc (.cells (lcell x ia ms.length ic ba bc) 111) := ⟨_, rfl⟩
  have HW1 := Lib.hid hW1
  have hs1 : W1.heap.size = w.heap.size + 1 := by rw [hW1]; simp
  have hb1 : Below w.heap.size w W1 := by rw [hW1]; exact (Below.refl _ _).alloc (Nat.le_refl _) _
  have hr0 : W1.heap[w.heap.size]? = some (.cells (lcell x ia ms.length ic ba bc) 111 (0, 0)) := by rw [hW1]; exact heap_alloc_new w _
  have HB1 := Lib.hid hb1
  have H1 := Lib.hid (h.below hb1 (Nat.le_refl _))
  obtain ⟨K, T, A, U, O, hx, hK1, hK5, hT1, hA1, hU1, hO1, hil9, hbl9, hit9, hus⟩ := rightL_nat hR
  obtain ⟨P, hP⟩ : ∃ P, putL x = P := ⟨_, rfl⟩
  rw [hP]
  have HRI := Lib.hid hit9
  obtain ⟨y, hy⟩ : ∃ y, x.y = y := ⟨_, rfl⟩
  have HPL := Lib.hid (show P = putNums [K, T] ++ (if K = 1 then putNums [A, U] else if K = 2 then putNum (yn y) else if K = 3 then putNums [A, U, O, ms.length] ++ putItems (ms.map MItem.it) else if K = 4 then putNum (yn y) ++ putNums [A, O] else putNums [A, U] ++ putText x.b) by
    rw [← hP, putL, h.eq, h.len, ← hy]
    rw [hx]
    simp
    norm_cast)
  have hN : ms.length ≤ 16 := by have := h.len; omega
  have hlc : lcell x ia ms.length ic ba bc = #[.int .i64 K, .int .i64 T, .int .i64 A, .int .i64 U, .int .i64 O, .bool y, .slice ia ms.length ic, .slice ba x.b.length bc] := by rw [← hy]; rw [hx]
  rw [hlc] at hr0
  have HR0 := Lib.hid hr0
  have hlK := putNum_le9 (show K < 18446744073709551616 by omega)
  have hlT := putNum_le9 (show T < 18446744073709551616 by omega)
  have hlA := putNum_le9 (show A < 18446744073709551616 by omega)
  have hlU := putNum_le9 (show U < 18446744073709551616 by omega)
  have hlO := putNum_le9 (show O < 18446744073709551616 by omega)
  have hlN := putNum_le9 (show ms.length < 18446744073709551616 by omega)
  have hlX := putNum_le9 (show x.b.length < 18446744073709551616 by omega)
  have hlY := putNum_le9 (show yn y < 18446744073709551616 by cases y <;> simp [yn])
  have HS1 := Lib.hid (show C2 w.heap.size 0 1 (.int .i64 K) (.int .i64 T) W1 from ⟨cell_of_row W1 w.heap.size 0 _ _ _ hr0, cell_of_row W1 w.heap.size 1 _ _ _ hr0⟩)
  clear h hR hit9 hus hy hP hlc hx hW1 hb1 hr0
  go_enter Try.func75, Try.ntmps75
  go_wp2_with fail
  rw [← HW1.out]
  refine wp_region_any (by kernel_rfl) ?_
  refine wpAny_of_held (S := C2 w.heap.size 0 1 (.int .i64 K) (.int .i64 T)) _ _ _ _ ?_
  have hdr : Below W1.heap.size W1 W1.drew := (Below.refl _ _).drew
  have hS0 := HS1.out.keep hdr (by omega)
  refine heldTake 0 5 rfl rfl (by kernel_rfl) (by kernel_rfl) (by kernel_rfl) (fun _ _ _ h => h) hS0 (.inl ⟨by rfl, by intro w' hS; obtain ⟨s1, s2⟩ := hS; go_simp; (try rfl)⟩) ?_
  simp only [List.set_cons_zero, List.set_cons_succ]
  refine heldTake 1 6 rfl rfl (by kernel_rfl) (by kernel_rfl) (by kernel_rfl) (fun _ _ _ h => h) hS0 (.inl ⟨by rfl, by intro w' hS; obtain ⟨s1, s2⟩ := hS; go_simp; (try rfl)⟩) ?_
  simp only [List.set_cons_zero, List.set_cons_succ]
  refine heldTake 3 8 rfl rfl (by kernel_rfl) (by kernel_rfl) (by kernel_rfl) (fun _ _ _ h => h) hS0 (.inl ⟨by rfl, by intro w' hS; obtain ⟨s1, s2⟩ := hS; go_simp; (try rfl)⟩) ?_
  simp only [List.set_cons_zero, List.set_cons_succ]
  refine heldTake 4 9 rfl rfl (by kernel_rfl) (by kernel_rfl) (by kernel_rfl) (fun _ _ _ h => h) hS0 (.inl ⟨by rfl, by intro w' hS; obtain ⟨s1, s2⟩ := hS; go_simp; (try rfl)⟩) ?_
  simp only [List.set_cons_zero, List.set_cons_succ]
  clear hS0
  refine heldOne 2 (by kernel_rfl) rfl (by rfl) ?_
  go_simp
  refine (r15num K (by omega) _).mono ?_
  rintro e w3 ⟨a3, c3, rfl, hown3, hb3⟩
  have hbb3 := hdr.trans hb3
  have HB3 := Lib.hid hbb3
  have HO3 := Lib.hid (show w3.ownsRow W1.heap.size 5 1 (.slice a3 (putNum K).length c3) (putNum K).length ((putNum K).map bv) from hown3)
  have hS3 := HS1.out.keep hbb3 (by omega)
  have hs3 := hbb3.size
  refine ⟨hS3, ?_⟩
  clear hS3 hbb3 hown3 hb3 hdr
  refine heldOne 5 (by kernel_rfl) rfl (by rfl) ?_
  go_simp
  refine (r15num T (by omega) _).mono ?_
  rintro e w4 ⟨a4, c4, rfl, hown4, hb4⟩
  have HO4 := Lib.hid (own_below' HO3.out hb4)
  have HS4 := Lib.hid ((slOf hown4))
  have hbb4 := HB3.out.trans (hb4.mono hs3)
  have HB4 := Lib.hid hbb4
  have hs4 := hbb4.size
  have hS4 := HS1.out.keep hbb4 (by omega)
  refine ⟨hS4, ?_⟩
  clear hS4 hbb4 hown4 hb4
  refine heldOne 6 (by kernel_rfl) rfl (by rfl) ?_
  refine wp_append_sl w4 (.tmp 7) (.tmp 10) 22 rfl W1.heap.size 5 i0 (.int .u8 0) 1 1 Try.underlying22 hi hz0 hz1 hz2 rfl (by decide) (.slice a3 (putNum K).length c3) (putNum K).length ((putNum K).map bv) rfl HO4.out w4.heap.size a4 (putNum T).length c4 ((putNum T).map bv) rfl HS4.out (one_bv _) (by unfold maxLen; omega) (by omega) hs4 ?_
  intro a5 c5 w5 o5 g5 _
  have HB5 := Lib.hid (show Below W1.heap.size W1 w5 from HB4.out.grown g5 hs4 (fun k hk => (own_lt HO4.out hk).1))
  have HO5 := Lib.hid (show w5.ownsRow W1.heap.size 5 1 (.slice a5 (putNum K ++ putNum T).length c5) (putNum K ++ putNum T).length ((putNum K ++ putNum T).map bv) from by rw [List.length_append, List.map_append]; exact o5)
  have hS5 := HS1.out.keep HB5.out (by omega)
  obtain ⟨P5, hP5⟩ : ∃ P, P = putNum K ++ putNum T := ⟨_, rfl⟩
  have hPl : P5.length = (putNum K).length + (putNum T).length := by rw [hP5]; simp
  rw [← hPl]
  rw [← hP5] at HO5
  have HP5 := Lib.hid hP5
  have hq5 : P5.length ≤ 18 := by omega
  have hs5 := HB5.out.size
  refine ⟨hS5, ?_⟩
  clear o5 g5 hP5 hPl
  go_simp
  refine heldTake 7 3 rfl rfl (by kernel_rfl) (by kernel_rfl) (by kernel_rfl) (fun _ _ _ h => h) hS5 (.inl ⟨by rfl, by intro w' hS; obtain ⟨s1, s2⟩ := hS; go_simp; (try rfl)⟩) ?_
  simp only [List.set_cons_zero, List.set_cons_succ]
  refine wpAnyH_done (by kernel_rfl) ?_ _
  clear hS5 hs3 hs4
  have hK : K = 1 ∨ K = 2 ∨ K = 3 ∨ K = 4 ∨ K = 5 := by omega
  clear hK1 hK5
  rcases hK with rfl | rfl | rfl | rfl | rfl
  · have d0 : w5.cell? ⟨w.heap.size, 0, none⟩ = some (.int .i64 1) := (HB5.out.cell (p := ⟨w.heap.size, 0, none⟩) (show w.heap.size < W1.heap.size by omega)).trans (cell_of_row W1 w.heap.size 0 _ _ _ HR0.out)
    have d2 : w5.cell? ⟨w.heap.size, 2, none⟩ = some (.int .i64 A) := (HB5.out.cell (p := ⟨w.heap.size, 2, none⟩) (show w.heap.size < W1.heap.size by omega)).trans (cell_of_row W1 w.heap.size 2 _ _ _ HR0.out)
    go_wp2_with fail
    refine (r15num A (by omega) _).mono ?_
    rintro e w6c ⟨a6c, c6c, rfl, hown6c, hb6c⟩
    have HO6c := Lib.hid (own_below' HO5.out hb6c)
    have HS6c := Lib.hid (slOf hown6c)
    have HB6c := Lib.hid (HB5.out.trans (hb6c.mono hs5))
    have hs6c := HB6c.out.size
    clear hown6c hb6c d0 d2
    go_wp2_with (at_builtin; go_must (refine wpList_append_sl _ rfl (.tmp 28) (.tmp 31) 22 rfl W1.heap.size 5 i0 (.int .u8 0) 1 1 Try.underlying22 hi hz0 hz1 hz2 rfl (by decide) (.slice a5 P5.length c5) P5.length (P5.map bv) rfl HO6c.out w6c.heap.size a6c (putNum A).length c6c ((putNum A).map bv) rfl HS6c.out (one_bv _) (by unfold maxLen; omega) (by omega) hs6c ?_); intro a6 c6 w6 o6 g6 _; have HB6 := Lib.hid (show Below W1.heap.size W1 w6 from HB6c.out.grown g6 hs6c (fun k hk => (own_lt HO6c.out hk).1)); have d0 : w6.cell? ⟨w.heap.size, 0, none⟩ = some (.int .i64 1) := (HB6.out.cell (p := ⟨w.heap.size, 0, none⟩) (show w.heap.size < W1.heap.size by omega)).trans (cell_of_row W1 w.heap.size 0 _ _ _ HR0.out); have d3 : w6.cell? ⟨w.heap.size, 3, none⟩ = some (.int .i64 U) := (HB6.out.cell (p := ⟨w.heap.size, 3, none⟩) (show w.heap.size < W1.heap.size by omega)).trans (cell_of_row W1 w.heap.size 3 _ _ _ HR0.out))
    obtain ⟨P6, hP6⟩ : ∃ P', P' = P5 ++ putNum A := ⟨_, rfl⟩
    have hPl : P6.length = P5.length + (putNum A).length := by rw [hP6]; simp
    have HO6 := Lib.hid (show w6.ownsRow W1.heap.size 5 1 (.slice a6 P6.length c6) P6.length (P6.map bv) from by rw [hPl, hP6, List.map_append]; exact o6)
    (try rw [← hPl])
    have HP6 := Lib.hid hP6
    have hq6 : P6.length ≤ 100 := by omega
    have hs6 := HB6.out.size
    clear o6 g6 hP6 hPl hs6c
    go_wp2_with fail
    refine (r15num U (by omega) _).mono ?_
    rintro e w7c ⟨a7c, c7c, rfl, hown7c, hb7c⟩
    have HO7c := Lib.hid (own_below' HO6.out hb7c)
    have HS7c := Lib.hid (slOf hown7c)
    have HB7c := Lib.hid (HB6.out.trans (hb7c.mono hs6))
    have hs7c := HB7c.out.size
    clear hown7c hb7c d0 d3
    go_wp2_with (at_builtin; go_must (refine wpList_append_sl _ rfl (.tmp 41) (.tmp 44) 22 rfl W1.heap.size 5 i0 (.int .u8 0) 1 1 Try.underlying22 hi hz0 hz1 hz2 rfl (by decide) (.slice a6 P6.length c6) P6.length (P6.map bv) rfl HO7c.out w7c.heap.size a7c (putNum U).length c7c ((putNum U).map bv) rfl HS7c.out (one_bv _) (by unfold maxLen; omega) (by omega) hs7c ?_); intro a7 c7 w7 o7 g7 _; have HB7 := Lib.hid (show Below W1.heap.size W1 w7 from HB7c.out.grown g7 hs7c (fun k hk => (own_lt HO7c.out hk).1)); have d0 : w7.cell? ⟨w.heap.size, 0, none⟩ = some (.int .i64 1) := (HB7.out.cell (p := ⟨w.heap.size, 0, none⟩) (show w.heap.size < W1.heap.size by omega)).trans (cell_of_row W1 w.heap.size 0 _ _ _ HR0.out))
    obtain ⟨P7, hP7⟩ : ∃ P', P' = P6 ++ putNum U := ⟨_, rfl⟩
    have hPl : P7.length = P6.length + (putNum U).length := by rw [hP7]; simp
    have HO7 := Lib.hid (show w7.ownsRow W1.heap.size 5 1 (.slice a7 P7.length c7) P7.length (P7.map bv) from by rw [hPl, hP7, List.map_append]; exact o7)
    (try rw [← hPl])
    have HP7 := Lib.hid hP7
    have hq7 : P7.length ≤ 200 := by omega
    have hs7 := HB7.out.size
    clear o7 g7 hP7 hPl hs7c
    have HLF := Lib.hid (show P = P7 by rw [HPL.out, HP7.out, HP6.out, HP5.out]; simp [putNums, putText, List.append_assoc])
    go_wp2
    (try rw [Exit.noGoto_ret])
    go_ret
    rw [HLF.out]
    obtain ⟨a99, c99, e99, h99⟩ := bsAt_of_owns HO7.out (by omega)
    injection e99 with e6 _ e8
    subst e6; subst e8
    exact ⟨a7, c7, rfl, h99, HB1.out.trans (HB7.out.mono (by omega))⟩
  · have d0 : w5.cell? ⟨w.heap.size, 0, none⟩ = some (.int .i64 2) := (HB5.out.cell (p := ⟨w.heap.size, 0, none⟩) (show w.heap.size < W1.heap.size by omega)).trans (cell_of_row W1 w.heap.size 0 _ _ _ HR0.out)
    have d5 : w5.cell? ⟨w.heap.size, 5, none⟩ = some (.bool y) := (HB5.out.cell (p := ⟨w.heap.size, 5, none⟩) (show w.heap.size < W1.heap.size by omega)).trans (cell_of_row W1 w.heap.size 5 _ _ _ HR0.out)
    go_wp2_with fail
    refine (r15yes y _).mono ?_
    rintro e w6c ⟨a6c, c6c, rfl, hown6c, hb6c⟩
    rw [show (if y = true then 1 else 0 : Nat) = yn y from rfl] at hown6c
    rw [show (if y = true then 1 else 0 : Nat) = yn y from rfl]
    have HO6c := Lib.hid (own_below' HO5.out hb6c)
    have HS6c := Lib.hid (slOf hown6c)
    have HB6c := Lib.hid (HB5.out.trans (hb6c.mono hs5))
    have hs6c := HB6c.out.size
    clear hown6c hb6c d0 d5
    go_wp2_with (at_builtin; go_must (refine wpList_append_sl _ rfl (.tmp 20) (.tmp 23) 22 rfl W1.heap.size 5 i0 (.int .u8 0) 1 1 Try.underlying22 hi hz0 hz1 hz2 rfl (by decide) (.slice a5 P5.length c5) P5.length (P5.map bv) rfl HO6c.out w6c.heap.size a6c (putNum (yn y)).length c6c ((putNum (yn y)).map bv) rfl HS6c.out (one_bv _) (by unfold maxLen; omega) (by omega) hs6c ?_); intro a6 c6 w6 o6 g6 _; have HB6 := Lib.hid (show Below W1.heap.size W1 w6 from HB6c.out.grown g6 hs6c (fun k hk => (own_lt HO6c.out hk).1)); have d0 : w6.cell? ⟨w.heap.size, 0, none⟩ = some (.int .i64 2) := (HB6.out.cell (p := ⟨w.heap.size, 0, none⟩) (show w.heap.size < W1.heap.size by omega)).trans (cell_of_row W1 w.heap.size 0 _ _ _ HR0.out))
    obtain ⟨P6, hP6⟩ : ∃ P', P' = P5 ++ putNum (yn y) := ⟨_, rfl⟩
    have hPl : P6.length = P5.length + (putNum (yn y)).length := by rw [hP6]; simp
    have HO6 := Lib.hid (show w6.ownsRow W1.heap.size 5 1 (.slice a6 P6.length c6) P6.length (P6.map bv) from by rw [hPl, hP6, List.map_append]; exact o6)
    (try rw [← hPl])
    have HP6 := Lib.hid hP6
    have hq6 : P6.length ≤ 100 := by omega
    have hs6 := HB6.out.size
    clear o6 g6 hP6 hPl hs6c
    have HLF := Lib.hid (show P = P6 by rw [HPL.out, HP6.out, HP5.out]; simp [putNums, putText, List.append_assoc])
    go_wp2
    (try rw [Exit.noGoto_ret])
    go_ret
    rw [HLF.out]
    obtain ⟨a99, c99, e99, h99⟩ := bsAt_of_owns HO6.out (by omega)
    injection e99 with e6 _ e8
    subst e6; subst e8
    exact ⟨a6, c6, rfl, h99, HB1.out.trans (HB6.out.mono (by omega))⟩
  · have d0 : w5.cell? ⟨w.heap.size, 0, none⟩ = some (.int .i64 3) := (HB5.out.cell (p := ⟨w.heap.size, 0, none⟩) (show w.heap.size < W1.heap.size by omega)).trans (cell_of_row W1 w.heap.size 0 _ _ _ HR0.out)
    have d2 : w5.cell? ⟨w.heap.size, 2, none⟩ = some (.int .i64 A) := (HB5.out.cell (p := ⟨w.heap.size, 2, none⟩) (show w.heap.size < W1.heap.size by omega)).trans (cell_of_row W1 w.heap.size 2 _ _ _ HR0.out)
    go_wp2_with fail
    refine (r15num A (by omega) _).mono ?_
    rintro e w6c ⟨a6c, c6c, rfl, hown6c, hb6c⟩
    have HO6c := Lib.hid (own_below' HO5.out hb6c)
    have HS6c := Lib.hid (slOf hown6c)
    have HB6c := Lib.hid (HB5.out.trans (hb6c.mono hs5))
    have hs6c := HB6c.out.size
    clear hown6c hb6c d0 d2
    go_wp2_with (at_builtin; go_must (refine wpList_append_sl _ rfl (.tmp 28) (.tmp 31) 22 rfl W1.heap.size 5 i0 (.int .u8 0) 1 1 Try.underlying22 hi hz0 hz1 hz2 rfl (by decide) (.slice a5 P5.length c5) P5.length (P5.map bv) rfl HO6c.out w6c.heap.size a6c (putNum A).length c6c ((putNum A).map bv) rfl HS6c.out (one_bv _) (by unfold maxLen; omega) (by omega) hs6c ?_); intro a6 c6 w6 o6 g6 _; have HB6 := Lib.hid (show Below W1.heap.size W1 w6 from HB6c.out.grown g6 hs6c (fun k hk => (own_lt HO6c.out hk).1)); have d0 : w6.cell? ⟨w.heap.size, 0, none⟩ = some (.int .i64 3) := (HB6.out.cell (p := ⟨w.heap.size, 0, none⟩) (show w.heap.size < W1.heap.size by omega)).trans (cell_of_row W1 w.heap.size 0 _ _ _ HR0.out); have d3 : w6.cell? ⟨w.heap.size, 3, none⟩ = some (.int .i64 U) := (HB6.out.cell (p := ⟨w.heap.size, 3, none⟩) (show w.heap.size < W1.heap.size by omega)).trans (cell_of_row W1 w.heap.size 3 _ _ _ HR0.out))
    obtain ⟨P6, hP6⟩ : ∃ P', P' = P5 ++ putNum A := ⟨_, rfl⟩
    have hPl : P6.length = P5.length + (putNum A).length := by rw [hP6]; simp
    have HO6 := Lib.hid (show w6.ownsRow W1.heap.size 5 1 (.slice a6 P6.length c6) P6.length (P6.map bv) from by rw [hPl, hP6, List.map_append]; exact o6)
    (try rw [← hPl])
    have HP6 := Lib.hid hP6
    have hq6 : P6.length ≤ 100 := by omega
    have hs6 := HB6.out.size
    clear o6 g6 hP6 hPl hs6c
    go_wp2_with fail
    refine (r15num U (by omega) _).mono ?_
    rintro e w7c ⟨a7c, c7c, rfl, hown7c, hb7c⟩
    have HO7c := Lib.hid (own_below' HO6.out hb7c)
    have HS7c := Lib.hid (slOf hown7c)
    have HB7c := Lib.hid (HB6.out.trans (hb7c.mono hs6))
    have hs7c := HB7c.out.size
    clear hown7c hb7c d0 d3
    go_wp2_with (at_builtin; go_must (refine wpList_append_sl _ rfl (.tmp 41) (.tmp 44) 22 rfl W1.heap.size 5 i0 (.int .u8 0) 1 1 Try.underlying22 hi hz0 hz1 hz2 rfl (by decide) (.slice a6 P6.length c6) P6.length (P6.map bv) rfl HO7c.out w7c.heap.size a7c (putNum U).length c7c ((putNum U).map bv) rfl HS7c.out (one_bv _) (by unfold maxLen; omega) (by omega) hs7c ?_); intro a7 c7 w7 o7 g7 _; have HB7 := Lib.hid (show Below W1.heap.size W1 w7 from HB7c.out.grown g7 hs7c (fun k hk => (own_lt HO7c.out hk).1)); have d0 : w7.cell? ⟨w.heap.size, 0, none⟩ = some (.int .i64 3) := (HB7.out.cell (p := ⟨w.heap.size, 0, none⟩) (show w.heap.size < W1.heap.size by omega)).trans (cell_of_row W1 w.heap.size 0 _ _ _ HR0.out); have d4 : w7.cell? ⟨w.heap.size, 4, none⟩ = some (.int .i64 O) := (HB7.out.cell (p := ⟨w.heap.size, 4, none⟩) (show w.heap.size < W1.heap.size by omega)).trans (cell_of_row W1 w.heap.size 4 _ _ _ HR0.out))
    obtain ⟨P7, hP7⟩ : ∃ P', P' = P6 ++ putNum U := ⟨_, rfl⟩
    have hPl : P7.length = P6.length + (putNum U).length := by rw [hP7]; simp
    have HO7 := Lib.hid (show w7.ownsRow W1.heap.size 5 1 (.slice a7 P7.length c7) P7.length (P7.map bv) from by rw [hPl, hP7, List.map_append]; exact o7)
    (try rw [← hPl])
    have HP7 := Lib.hid hP7
    have hq7 : P7.length ≤ 200 := by omega
    have hs7 := HB7.out.size
    clear o7 g7 hP7 hPl hs7c
    go_wp2_with fail
    refine (r15num O (by omega) _).mono ?_
    rintro e w8c ⟨a8c, c8c, rfl, hown8c, hb8c⟩
    have HO8c := Lib.hid (own_below' HO7.out hb8c)
    have HS8c := Lib.hid (slOf hown8c)
    have HB8c := Lib.hid (HB7.out.trans (hb8c.mono hs7))
    have hs8c := HB8c.out.size
    clear hown8c hb8c d0 d4
    go_wp2_with (at_builtin; go_must (refine wpList_append_sl _ rfl (.tmp 54) (.tmp 57) 22 rfl W1.heap.size 5 i0 (.int .u8 0) 1 1 Try.underlying22 hi hz0 hz1 hz2 rfl (by decide) (.slice a7 P7.length c7) P7.length (P7.map bv) rfl HO8c.out w8c.heap.size a8c (putNum O).length c8c ((putNum O).map bv) rfl HS8c.out (one_bv _) (by unfold maxLen; omega) (by omega) hs8c ?_); intro a8 c8 w8 o8 g8 _; have HB8 := Lib.hid (show Below W1.heap.size W1 w8 from HB8c.out.grown g8 hs8c (fun k hk => (own_lt HO8c.out hk).1)); have d0 : w8.cell? ⟨w.heap.size, 0, none⟩ = some (.int .i64 3) := (HB8.out.cell (p := ⟨w.heap.size, 0, none⟩) (show w.heap.size < W1.heap.size by omega)).trans (cell_of_row W1 w.heap.size 0 _ _ _ HR0.out); have d6 : w8.cell? ⟨w.heap.size, 6, none⟩ = some (.slice ia ms.length ic) := (HB8.out.cell (p := ⟨w.heap.size, 6, none⟩) (show w.heap.size < W1.heap.size by omega)).trans (cell_of_row W1 w.heap.size 6 _ _ _ HR0.out))
    obtain ⟨P8, hP8⟩ : ∃ P', P' = P7 ++ putNum O := ⟨_, rfl⟩
    have hPl : P8.length = P7.length + (putNum O).length := by rw [hP8]; simp
    have HO8 := Lib.hid (show w8.ownsRow W1.heap.size 5 1 (.slice a8 P8.length c8) P8.length (P8.map bv) from by rw [hPl, hP8, List.map_append]; exact o8)
    (try rw [← hPl])
    have HP8 := Lib.hid hP8
    have hq8 : P8.length ≤ 300 := by omega
    have hs8 := HB8.out.size
    clear o8 g8 hP8 hPl hs8c
    go_wp2_with fail
    refine (r15num ms.length (by omega) _).mono ?_
    rintro e w9c ⟨a9c, c9c, rfl, hown9c, hb9c⟩
    have HO9c := Lib.hid (own_below' HO8.out hb9c)
    have HS9c := Lib.hid (slOf hown9c)
    have HB9c := Lib.hid (HB8.out.trans (hb9c.mono hs8))
    have hs9c := HB9c.out.size
    clear hown9c hb9c d0 d6
    go_wp2_with (at_builtin; go_must (refine wpList_append_sl _ rfl (.tmp 62) (.tmp 66) 22 rfl W1.heap.size 5 i0 (.int .u8 0) 1 1 Try.underlying22 hi hz0 hz1 hz2 rfl (by decide) (.slice a8 P8.length c8) P8.length (P8.map bv) rfl HO9c.out w9c.heap.size a9c (putNum ms.length).length c9c ((putNum ms.length).map bv) rfl HS9c.out (one_bv _) (by unfold maxLen; omega) (by omega) hs9c ?_); intro a9 c9 w9 o9 g9 _; have HB9 := Lib.hid (show Below W1.heap.size W1 w9 from HB9c.out.grown g9 hs9c (fun k hk => (own_lt HO9c.out hk).1)); skip)
    obtain ⟨P9, hP9⟩ : ∃ P', P' = P8 ++ putNum ms.length := ⟨_, rfl⟩
    have hPl : P9.length = P8.length + (putNum ms.length).length := by rw [hP9]; simp
    have HO9 := Lib.hid (show w9.ownsRow W1.heap.size 5 1 (.slice a9 P9.length c9) P9.length (P9.map bv) from by rw [hPl, hP9, List.map_append]; exact o9)
    (try rw [← hPl])
    have HP9 := Lib.hid hP9
    have hq9 : P9.length ≤ 400 := by omega
    have hs9 := HB9.out.size
    clear o9 g9 hP9 hPl hs9c
    go_wp2_with fail
    go_loopw [3, 4] (fun pv iv wr => ∃ (i : Nat) (av : Option Addr) (cv : Nat) (L : List UInt8), pv = .slice av L.length cv ∧ iv = .int .i64 i ∧ i ≤ ms.length ∧ L = P9 ++ putItems ((ms.take i).map MItem.it) ∧ wr.ownsRow W1.heap.size 5 1 pv L.length (L.map bv) ∧ Below W1.heap.size W1 wr) (fun _ iv _ => ms.length - (intOf iv).toNat)
    case atStart => exact ⟨0, a9, c9, P9, rfl, rfl, by omega, by simp [putItems], HO9.out, HB9.out⟩
    case round =>
      obtain ⟨i, av, cv, L, rfl, rfl, hi', hL, hown, hbel⟩ := hrel
      have HLL := Lib.hid hL
      have HO := Lib.hid hown
      have HB := Lib.hid hbel
      have hwr := hbel.size
      have hbd : (putItems ((ms.take i).map MItem.it)).length ≤ 8300 * 16 := by
        have h1 := putItems_len ((ms.take i).map MItem.it) (fun it hit => HRI.out it (by
          rw [← H1.out.eq]
          obtain ⟨m, hm, rfl⟩ := List.mem_map.1 hit
          exact List.mem_map_of_mem (List.mem_of_mem_take hm)))
        have h2 : ((ms.take i).map MItem.it).length ≤ 16 := by simp; omega
        have h3 : ((ms.take i).map MItem.it).length * 8300 ≤ 16 * 8300 := Nat.mul_le_mul_right _ h2
        omega
      have hLl : L.length ≤ 900000 := by rw [hL, List.length_append]; omega
      have d6 : wr.cell? ⟨w.heap.size, 6, none⟩ = some (.slice ia ms.length ic) := (HB.out.cell (p := ⟨w.heap.size, 6, none⟩) (show w.heap.size < W1.heap.size by omega)).trans (cell_of_row W1 w.heap.size 6 _ _ _ HR0.out)
      have d0 : wr.cell? ⟨w.heap.size, 0, none⟩ = some (.int .i64 3) := (HB.out.cell (p := ⟨w.heap.size, 0, none⟩) (show w.heap.size < W1.heap.size by omega)).trans (cell_of_row W1 w.heap.size 0 _ _ _ HR0.out)
      clear hL hown hbel
      by_cases hil : i < ms.length
      · obtain ⟨m, hm⟩ : ∃ m, ms[i]? = some m := ⟨_, List.getElem?_eq_getElem hil⟩
        have hmm := List.mem_of_getElem? hm
        have HM := Lib.hid hm
        have HIT := Lib.hid H1.out.its
        obtain ⟨b, o, rfl, hb, k0, k1⟩ := HIT.out.cell hm
        have hbs := HIT.out.bs m hmm
        have hmn : m.n = m.b.length := hbs.hlen.symm
        have hmi := (rightI_iff _).1 (HRI.out m.it (by rw [← H1.out.eq]; exact List.mem_map_of_mem hmm))
        have hmb : m.b.length ≤ 8192 := hmi.2.2
        have hmt : 0 ≤ m.t ∧ m.t ≤ 1099511627776 := ⟨hmi.1, hmi.2.1⟩
        rw [hmn] at k1
        obtain ⟨M, hM⟩ : ∃ M : Nat, m.t = M := ⟨m.t.toNat, by omega⟩
        have hM1 : M ≤ 1099511627776 := by omega
        rw [hM] at k0
        have hb9 : b < W1.heap.size := by omega
        have HK := Lib.hid (show L3 w.heap.size (.slice (some ⟨b, o, none⟩) ms.length ic) b (o + i * 2) M (.slice m.a m.b.length m.c) wr from
          ⟨d6, (HB.out.cell (p := ⟨b, o + i * 2, none⟩) hb9).trans k0, (HB.out.cell (p := ⟨b, o + (i * 2 + 1), none⟩) hb9).trans k1⟩)
        have HBM := Lib.hid (show BsAt W1 w.heap.size m.a m.b.length m.c m.b from by rw [← hmn]; exact hbs)
        have HMT := Lib.hid (show m.t.toNat = M by omega)
        have tk : decide ((i : Int) < (ms.length : Int)) = true := by simpa using hil
        have hi0 : (0 : Int) ≤ (i : Int) := by omega
        have hi1 : (i : Int) < (ms.length : Int) := by omega
        have hlM := putNum_le9 (show M < 18446744073709551616 by omega)
        have hlL := putNum_le9 (show m.b.length < 18446744073709551616 by omega)
        clear k0 k1 hm hmm hbs hmn hM hmi hmt d0
        go_wp2_with fail
        refine wp_region_any (by kernel_rfl) ?_
        refine wpAny_of_held (S := L3 w.heap.size (.slice (some ⟨b, o, none⟩) ms.length ic) b (o + i * 2) M (.slice m.a m.b.length m.c)) _ _ _ _ ?_
        have hdr : Below wr.heap.size wr wr.drew := (Below.refl _ _).drew
        have hS0 := HK.out.keep hdr (by omega) (by omega)
        clear d6
        refine heldTake 0 75 rfl rfl (by kernel_rfl) (by kernel_rfl) (by kernel_rfl) (fun _ _ _ h => h) hS0 (.inl ⟨by rfl, by intro w' hS; obtain ⟨s1, s2, s3⟩ := hS; go_simp; (try rfl)⟩) ?_
        simp only [List.set_cons_zero, List.set_cons_succ]
        refine heldTake 1 76 rfl rfl (by kernel_rfl) (by kernel_rfl) (by kernel_rfl) (fun _ _ _ h => h) hS0 (.inl ⟨by rfl, by intro w' hS; obtain ⟨s1, s2, s3⟩ := hS; go_simp; (try rfl)⟩) ?_
        simp only [List.set_cons_zero, List.set_cons_succ]
        refine heldTake 2 77 rfl rfl (by kernel_rfl) (by kernel_rfl) (by kernel_rfl) (fun _ _ _ h => h) hS0 (.inl ⟨by rfl, by intro w' hS; obtain ⟨s1, s2, s3⟩ := hS; go_simp; (try rfl)⟩) ?_
        simp only [List.set_cons_zero, List.set_cons_succ]
        refine heldTake 3 78 rfl rfl (by kernel_rfl) (by kernel_rfl) (by kernel_rfl) (fun _ _ _ h => h) hS0 (.inl ⟨by rfl, by intro w' hS; obtain ⟨s1, s2, s3⟩ := hS; go_simp; (try rfl)⟩) ?_
        simp only [List.set_cons_zero, List.set_cons_succ]
        refine heldTake 4 79 rfl rfl (by kernel_rfl) (by kernel_rfl) (by kernel_rfl) (fun _ _ _ h => h) hS0 (.inl ⟨by rfl, by intro w' hS; obtain ⟨s1, s2, s3⟩ := hS; go_simp; (try rfl)⟩) ?_
        simp only [List.set_cons_zero, List.set_cons_succ]
        refine heldTake 5 80 rfl rfl (by kernel_rfl) (by kernel_rfl) (by kernel_rfl) (fun _ _ _ h => h) hS0 (.inl ⟨by rfl, by intro w' hS; obtain ⟨s1, s2, s3⟩ := hS; go_simp; (try rfl)⟩) ?_
        simp only [List.set_cons_zero, List.set_cons_succ]
        refine heldTake 6 81 rfl rfl (by kernel_rfl) (by kernel_rfl) (by kernel_rfl) (fun _ _ _ h => h) hS0 (.inl ⟨by rfl, by intro w' hS; obtain ⟨s1, s2, s3⟩ := hS; go_simp; (try rfl)⟩) ?_
        simp only [List.set_cons_zero, List.set_cons_succ]
        refine heldTake 9 84 rfl rfl (by kernel_rfl) (by kernel_rfl) (by kernel_rfl) (fun _ _ _ h => h) hS0 (.inl ⟨by rfl, by intro w' hS; obtain ⟨s1, s2, s3⟩ := hS; go_simp; (try rfl)⟩) ?_
        simp only [List.set_cons_zero, List.set_cons_succ]
        refine heldTake 10 85 rfl rfl (by kernel_rfl) (by kernel_rfl) (by kernel_rfl) (fun _ _ _ h => h) hS0 (.inl ⟨by rfl, by intro w' hS; obtain ⟨s1, s2, s3⟩ := hS; go_simp; (try rfl)⟩) ?_
        simp only [List.set_cons_zero, List.set_cons_succ]
        refine heldTake 11 86 rfl rfl (by kernel_rfl) (by kernel_rfl) (by kernel_rfl) (fun _ _ _ h => h) hS0 (.inl ⟨by rfl, by intro w' hS; obtain ⟨s1, s2, s3⟩ := hS; go_simp; (try rfl)⟩) ?_
        simp only [List.set_cons_zero, List.set_cons_succ]
        refine heldTake 12 87 rfl rfl (by kernel_rfl) (by kernel_rfl) (by kernel_rfl) (fun _ _ _ h => h) hS0 (.inl ⟨by rfl, by intro w' hS; obtain ⟨s1, s2, s3⟩ := hS; go_simp; (try rfl)⟩) ?_
        simp only [List.set_cons_zero, List.set_cons_succ]
        refine heldTake 13 88 rfl rfl (by kernel_rfl) (by kernel_rfl) (by kernel_rfl) (fun _ _ _ h => h) hS0 (.inl ⟨by rfl, by intro w' hS; obtain ⟨s1, s2, s3⟩ := hS; go_simp; (try rfl)⟩) ?_
        simp only [List.set_cons_zero, List.set_cons_succ]
        refine heldTake 14 89 rfl rfl (by kernel_rfl) (by kernel_rfl) (by kernel_rfl) (fun _ _ _ h => h) hS0 (.inl ⟨by rfl, by intro w' hS; obtain ⟨s1, s2, s3⟩ := hS; go_simp; (try rfl)⟩) ?_
        simp only [List.set_cons_zero, List.set_cons_succ]
        refine heldTake 15 90 rfl rfl (by kernel_rfl) (by kernel_rfl) (by kernel_rfl) (fun _ _ _ h => h) hS0 (.inl ⟨by rfl, by intro w' hS; obtain ⟨s1, s2, s3⟩ := hS; go_simp; (try rfl)⟩) ?_
        simp only [List.set_cons_zero, List.set_cons_succ]
        clear hS0
        refine heldOne 7 (by kernel_rfl) rfl (by rfl) ?_
        go_simp
        refine (r15num M (by omega) _).mono ?_
        rintro e y3 ⟨a3, c3, rfl, hown3, hb3⟩
        have hbb3 := hdr.trans hb3
        have YB3 := Lib.hid hbb3
        have YO3 := Lib.hid (own_below' HO.out hbb3)
        have YS3 := Lib.hid (slOf hown3)
        have ys3 := hbb3.size
        have hS3 := HK.out.keep hbb3 (by omega) (by omega)
        refine ⟨hS3, ?_⟩
        clear hS3 hbb3 hown3 hb3 hdr
        refine heldOne 8 (by kernel_rfl) rfl (by rfl) ?_
        refine wp_append_sl y3 (.tmp 75) (.tmp 82) 22 rfl W1.heap.size 5 i0 (.int .u8 0) 1 1 Try.underlying22 hi hz0 hz1 hz2 rfl (by decide) (.slice av L.length cv) L.length (L.map bv) rfl YO3.out y3.heap.size a3 (putNum M).length c3 ((putNum M).map bv) rfl YS3.out (one_bv _) (by unfold maxLen; omega) (by omega) (by omega) ?_
        intro a4 c4 y4 o4 g4 _
        obtain ⟨P4, hP4⟩ : ∃ P4, P4 = L ++ putNum M := ⟨_, rfl⟩
        have hP4l : P4.length = L.length + (putNum M).length := by rw [hP4]; simp
        have YB4 := Lib.hid (show Below W1.heap.size W1 y4 from (HB.out.trans (YB3.out.mono hwr)).grown g4 (by omega) (fun k hk => (own_lt YO3.out hk).1))
        have YO4 := Lib.hid (show y4.ownsRow W1.heap.size 5 1 (.slice a4 P4.length c4) P4.length (P4.map bv) from by rw [hP4l, hP4, List.map_append]; exact o4)
        have hK4 : L3 w.heap.size (.slice (some ⟨b, o, none⟩) ms.length ic) b (o + i * 2) M (.slice m.a m.b.length m.c) y4 := by
          have hfar : ∀ k, k < W1.heap.size → y4.heap[k]? = wr.heap[k]? := fun k hk => (g4.block k (by omega) (fun e => by have := (own_lt YO3.out e.symm).1; omega)).trans (YB3.out.block k (by omega))
          exact HK.out.keep (N := W1.heap.size) ⟨g4.os.trans YB3.out.os, g4.tape.trans YB3.out.tape, g4.output.trans YB3.out.output, Nat.le_trans ys3 g4.size, hfar⟩ (by omega) (by omega)
        have ys4 := YB4.out.size
        have HK4 := Lib.hid hK4
        rw [← hP4l]
        have YP4 := Lib.hid hP4
        have hP4b : P4.length ≤ 900009 := by omega
        refine ⟨hK4, ?_⟩
        clear hK4 o4 g4 hP4 hP4l
        refine heldOne 16 (by kernel_rfl) rfl (by rfl) ?_
        go_simp
        refine (r15num m.b.length (by omega) _).mono ?_
        rintro e y5 ⟨a5, c5, rfl, hown5, hb5⟩
        have YO5 := Lib.hid (own_below' YO4.out hb5)
        have YS5 := Lib.hid (slOf hown5)
        have YB5 := Lib.hid (YB4.out.trans (hb5.mono ys4))
        have ys5 := YB5.out.size
        have hS5 := HK4.out.keep hb5 (by omega) (by omega)
        have HK5 := Lib.hid hS5
        refine ⟨hS5, ?_⟩
        clear hS5 hown5 hb5
        refine heldOne 17 (by kernel_rfl) rfl (by rfl) ?_
        refine wp_append_sl y5 (.tmp 83) (.tmp 91) 22 rfl W1.heap.size 5 i0 (.int .u8 0) 1 1 Try.underlying22 hi hz0 hz1 hz2 rfl (by decide) (.slice a4 P4.length c4) P4.length (P4.map bv) rfl YO5.out y5.heap.size a5 (putNum m.b.length).length c5 ((putNum m.b.length).map bv) rfl YS5.out (one_bv _) (by unfold maxLen; omega) (by omega) (by omega) ?_
        intro a6 c6 y6 o6 g6 _
        obtain ⟨P6, hP6⟩ : ∃ P6, P6 = P4 ++ putNum m.b.length := ⟨_, rfl⟩
        have hP6l : P6.length = P4.length + (putNum m.b.length).length := by rw [hP6]; simp
        have YB6 := Lib.hid (show Below W1.heap.size W1 y6 from YB5.out.grown g6 ys5 (fun k hk => (own_lt YO5.out hk).1))
        have YO6 := Lib.hid (show y6.ownsRow W1.heap.size 5 1 (.slice a6 P6.length c6) P6.length (P6.map bv) from by rw [hP6l, hP6, List.map_append]; exact o6)
        have hK6 : L3 w.heap.size (.slice (some ⟨b, o, none⟩) ms.length ic) b (o + i * 2) M (.slice m.a m.b.length m.c) y6 :=
          HK5.out.keep (N := W1.heap.size) ⟨g6.os, g6.tape, g6.output, g6.size, fun k hk => g6.block k (by omega) (fun e => by have := (own_lt YO5.out e.symm).1; omega)⟩ (by omega) (by omega)
        have ys6 := YB6.out.size
        have HK6 := Lib.hid hK6
        rw [← hP6l]
        have YP6 := Lib.hid hP6
        have hP6b : P6.length ≤ 900018 := by omega
        refine ⟨hK6, ?_⟩
        clear o6 g6 hP6 hP6l
        go_simp
        refine heldTake 18 3 rfl rfl (by kernel_rfl) (by kernel_rfl) (by kernel_rfl) (fun _ _ _ h => h) hK6 (.inl ⟨by rfl, by intro w' hS; obtain ⟨s1, s2, s3⟩ := hS; go_simp; (try rfl)⟩) ?_
        simp only [List.set_cons_zero, List.set_cons_succ]
        refine wpAnyH_done (by kernel_rfl) ?_ _
        obtain ⟨d2, d3, d4⟩ := HK6.out
        have hbw6 : Below W1.heap.size W1 y6 := YB6.out
        have YBS := Lib.hid (show SlAt y6 y6.heap.size 1 m.a m.b.length m.c (m.b.map bv) from ((HBM.out.below hbw6 (by omega)).mono (by omega)).sl)
        clear hK6 hbw6
        go_wp2_with (at_builtin; go_must (refine wpList_append_sl _ rfl (.tmp 93) (.tmp 99) 22 rfl W1.heap.size 5 i0 (.int .u8 0) 1 1 Try.underlying22 hi hz0 hz1 hz2 rfl (by decide) (.slice a6 P6.length c6) P6.length (P6.map bv) rfl YO6.out y6.heap.size m.a m.b.length m.c (m.b.map bv) rfl YBS.out (one_bv _) (by unfold maxLen; omega) (by omega) ys6 ?_); intro a8 c8 y8 o8 g8 _)
        obtain ⟨P8, hP8⟩ : ∃ P8, P8 = P6 ++ m.b := ⟨_, rfl⟩
        have hP8l : P8.length = P6.length + m.b.length := by rw [hP8]; simp
        have YB8 := Lib.hid (show Below W1.heap.size W1 y8 from YB6.out.grown g8 ys6 (fun k hk => (own_lt YO6.out hk).1))
        have YO8 := Lib.hid (show y8.ownsRow W1.heap.size 5 1 (.slice a8 P8.length c8) P8.length (P8.map bv) from by rw [hP8l, hP8, List.map_append]; exact o8)
        have YP8 := Lib.hid (show P8 = P9 ++ putItems ((ms.take (i + 1)).map MItem.it) by
          rw [hP8, YP6.out, YP4.out, HLL.out, putItems_take_succ HM.out, HMT.out]
          simp [putText, List.append_assoc])
        rw [← hP8l]
        clear o8 g8 hP8 hP8l d2 d3 d4
        go_roundw
        case rel => exact ⟨i + 1, a8, c8, P8, rfl, by go_num, hil, YP8.out, YO8.out, YB8.out⟩
        case measure => simp [intOf]; omega
      · have tk : decide ((i : Int) < (ms.length : Int)) = false := by simpa using hil
        have hie : i = ms.length := by omega
        subst hie
        have HLF := Lib.hid (show P = L by rw [HPL.out, HLL.out, HP9.out, HP8.out, HP7.out, HP6.out, HP5.out, List.take_length]; simp [putNums, List.append_assoc])
        clear hil
        go_wp2
        (try rw [Exit.noGoto_ret])
        go_ret
        rw [HLF.out]
        obtain ⟨a99, c99, e99, h99⟩ := bsAt_of_owns HO.out (by omega)
        injection e99 with e6 _ e8
        subst e6; subst e8
        exact ⟨av, cv, rfl, h99, HB1.out.trans (HB.out.mono (by omega))⟩
  · have d0 : w5.cell? ⟨w.heap.size, 0, none⟩ = some (.int .i64 4) := (HB5.out.cell (p := ⟨w.heap.size, 0, none⟩) (show w.heap.size < W1.heap.size by omega)).trans (cell_of_row W1 w.heap.size 0 _ _ _ HR0.out)
    have d5 : w5.cell? ⟨w.heap.size, 5, none⟩ = some (.bool y) := (HB5.out.cell (p := ⟨w.heap.size, 5, none⟩) (show w.heap.size < W1.heap.size by omega)).trans (cell_of_row W1 w.heap.size 5 _ _ _ HR0.out)
    go_wp2_with fail
    refine (r15yes y _).mono ?_
    rintro e w6c ⟨a6c, c6c, rfl, hown6c, hb6c⟩
    rw [show (if y = true then 1 else 0 : Nat) = yn y from rfl] at hown6c
    rw [show (if y = true then 1 else 0 : Nat) = yn y from rfl]
    have HO6c := Lib.hid (own_below' HO5.out hb6c)
    have HS6c := Lib.hid (slOf hown6c)
    have HB6c := Lib.hid (HB5.out.trans (hb6c.mono hs5))
    have hs6c := HB6c.out.size
    clear hown6c hb6c d0 d5
    go_wp2_with (at_builtin; go_must (refine wpList_append_sl _ rfl (.tmp 20) (.tmp 23) 22 rfl W1.heap.size 5 i0 (.int .u8 0) 1 1 Try.underlying22 hi hz0 hz1 hz2 rfl (by decide) (.slice a5 P5.length c5) P5.length (P5.map bv) rfl HO6c.out w6c.heap.size a6c (putNum (yn y)).length c6c ((putNum (yn y)).map bv) rfl HS6c.out (one_bv _) (by unfold maxLen; omega) (by omega) hs6c ?_); intro a6 c6 w6 o6 g6 _; have HB6 := Lib.hid (show Below W1.heap.size W1 w6 from HB6c.out.grown g6 hs6c (fun k hk => (own_lt HO6c.out hk).1)); have d0 : w6.cell? ⟨w.heap.size, 0, none⟩ = some (.int .i64 4) := (HB6.out.cell (p := ⟨w.heap.size, 0, none⟩) (show w.heap.size < W1.heap.size by omega)).trans (cell_of_row W1 w.heap.size 0 _ _ _ HR0.out); have d2 : w6.cell? ⟨w.heap.size, 2, none⟩ = some (.int .i64 A) := (HB6.out.cell (p := ⟨w.heap.size, 2, none⟩) (show w.heap.size < W1.heap.size by omega)).trans (cell_of_row W1 w.heap.size 2 _ _ _ HR0.out))
    obtain ⟨P6, hP6⟩ : ∃ P', P' = P5 ++ putNum (yn y) := ⟨_, rfl⟩
    have hPl : P6.length = P5.length + (putNum (yn y)).length := by rw [hP6]; simp
    have HO6 := Lib.hid (show w6.ownsRow W1.heap.size 5 1 (.slice a6 P6.length c6) P6.length (P6.map bv) from by rw [hPl, hP6, List.map_append]; exact o6)
    (try rw [← hPl])
    have HP6 := Lib.hid hP6
    have hq6 : P6.length ≤ 100 := by omega
    have hs6 := HB6.out.size
    clear o6 g6 hP6 hPl hs6c
    go_wp2_with fail
    refine (r15num A (by omega) _).mono ?_
    rintro e w7c ⟨a7c, c7c, rfl, hown7c, hb7c⟩
    have HO7c := Lib.hid (own_below' HO6.out hb7c)
    have HS7c := Lib.hid (slOf hown7c)
    have HB7c := Lib.hid (HB6.out.trans (hb7c.mono hs6))
    have hs7c := HB7c.out.size
    clear hown7c hb7c d0 d2
    go_wp2_with (at_builtin; go_must (refine wpList_append_sl _ rfl (.tmp 28) (.tmp 31) 22 rfl W1.heap.size 5 i0 (.int .u8 0) 1 1 Try.underlying22 hi hz0 hz1 hz2 rfl (by decide) (.slice a6 P6.length c6) P6.length (P6.map bv) rfl HO7c.out w7c.heap.size a7c (putNum A).length c7c ((putNum A).map bv) rfl HS7c.out (one_bv _) (by unfold maxLen; omega) (by omega) hs7c ?_); intro a7 c7 w7 o7 g7 _; have HB7 := Lib.hid (show Below W1.heap.size W1 w7 from HB7c.out.grown g7 hs7c (fun k hk => (own_lt HO7c.out hk).1)); have d0 : w7.cell? ⟨w.heap.size, 0, none⟩ = some (.int .i64 4) := (HB7.out.cell (p := ⟨w.heap.size, 0, none⟩) (show w.heap.size < W1.heap.size by omega)).trans (cell_of_row W1 w.heap.size 0 _ _ _ HR0.out); have d4 : w7.cell? ⟨w.heap.size, 4, none⟩ = some (.int .i64 O) := (HB7.out.cell (p := ⟨w.heap.size, 4, none⟩) (show w.heap.size < W1.heap.size by omega)).trans (cell_of_row W1 w.heap.size 4 _ _ _ HR0.out))
    obtain ⟨P7, hP7⟩ : ∃ P', P' = P6 ++ putNum A := ⟨_, rfl⟩
    have hPl : P7.length = P6.length + (putNum A).length := by rw [hP7]; simp
    have HO7 := Lib.hid (show w7.ownsRow W1.heap.size 5 1 (.slice a7 P7.length c7) P7.length (P7.map bv) from by rw [hPl, hP7, List.map_append]; exact o7)
    (try rw [← hPl])
    have HP7 := Lib.hid hP7
    have hq7 : P7.length ≤ 200 := by omega
    have hs7 := HB7.out.size
    clear o7 g7 hP7 hPl hs7c
    go_wp2_with fail
    refine (r15num O (by omega) _).mono ?_
    rintro e w8c ⟨a8c, c8c, rfl, hown8c, hb8c⟩
    have HO8c := Lib.hid (own_below' HO7.out hb8c)
    have HS8c := Lib.hid (slOf hown8c)
    have HB8c := Lib.hid (HB7.out.trans (hb8c.mono hs7))
    have hs8c := HB8c.out.size
    clear hown8c hb8c d0 d4
    go_wp2_with (at_builtin; go_must (refine wpList_append_sl _ rfl (.tmp 54) (.tmp 57) 22 rfl W1.heap.size 5 i0 (.int .u8 0) 1 1 Try.underlying22 hi hz0 hz1 hz2 rfl (by decide) (.slice a7 P7.length c7) P7.length (P7.map bv) rfl HO8c.out w8c.heap.size a8c (putNum O).length c8c ((putNum O).map bv) rfl HS8c.out (one_bv _) (by unfold maxLen; omega) (by omega) hs8c ?_); intro a8 c8 w8 o8 g8 _; have HB8 := Lib.hid (show Below W1.heap.size W1 w8 from HB8c.out.grown g8 hs8c (fun k hk => (own_lt HO8c.out hk).1)); have d0 : w8.cell? ⟨w.heap.size, 0, none⟩ = some (.int .i64 4) := (HB8.out.cell (p := ⟨w.heap.size, 0, none⟩) (show w.heap.size < W1.heap.size by omega)).trans (cell_of_row W1 w.heap.size 0 _ _ _ HR0.out))
    obtain ⟨P8, hP8⟩ : ∃ P', P' = P7 ++ putNum O := ⟨_, rfl⟩
    have hPl : P8.length = P7.length + (putNum O).length := by rw [hP8]; simp
    have HO8 := Lib.hid (show w8.ownsRow W1.heap.size 5 1 (.slice a8 P8.length c8) P8.length (P8.map bv) from by rw [hPl, hP8, List.map_append]; exact o8)
    (try rw [← hPl])
    have HP8 := Lib.hid hP8
    have hq8 : P8.length ≤ 300 := by omega
    have hs8 := HB8.out.size
    clear o8 g8 hP8 hPl hs8c
    have HLF := Lib.hid (show P = P8 by rw [HPL.out, HP8.out, HP7.out, HP6.out, HP5.out]; simp [putNums, putText, List.append_assoc])
    go_wp2
    (try rw [Exit.noGoto_ret])
    go_ret
    rw [HLF.out]
    obtain ⟨a99, c99, e99, h99⟩ := bsAt_of_owns HO8.out (by omega)
    injection e99 with e6 _ e8
    subst e6; subst e8
    exact ⟨a8, c8, rfl, h99, HB1.out.trans (HB8.out.mono (by omega))⟩
  · have d0 : w5.cell? ⟨w.heap.size, 0, none⟩ = some (.int .i64 5) := (HB5.out.cell (p := ⟨w.heap.size, 0, none⟩) (show w.heap.size < W1.heap.size by omega)).trans (cell_of_row W1 w.heap.size 0 _ _ _ HR0.out)
    have d2 : w5.cell? ⟨w.heap.size, 2, none⟩ = some (.int .i64 A) := (HB5.out.cell (p := ⟨w.heap.size, 2, none⟩) (show w.heap.size < W1.heap.size by omega)).trans (cell_of_row W1 w.heap.size 2 _ _ _ HR0.out)
    go_wp2_with fail
    refine (r15num A (by omega) _).mono ?_
    rintro e w6c ⟨a6c, c6c, rfl, hown6c, hb6c⟩
    have HO6c := Lib.hid (own_below' HO5.out hb6c)
    have HS6c := Lib.hid (slOf hown6c)
    have HB6c := Lib.hid (HB5.out.trans (hb6c.mono hs5))
    have hs6c := HB6c.out.size
    clear hown6c hb6c d0 d2
    go_wp2_with (at_builtin; go_must (refine wpList_append_sl _ rfl (.tmp 28) (.tmp 31) 22 rfl W1.heap.size 5 i0 (.int .u8 0) 1 1 Try.underlying22 hi hz0 hz1 hz2 rfl (by decide) (.slice a5 P5.length c5) P5.length (P5.map bv) rfl HO6c.out w6c.heap.size a6c (putNum A).length c6c ((putNum A).map bv) rfl HS6c.out (one_bv _) (by unfold maxLen; omega) (by omega) hs6c ?_); intro a6 c6 w6 o6 g6 _; have HB6 := Lib.hid (show Below W1.heap.size W1 w6 from HB6c.out.grown g6 hs6c (fun k hk => (own_lt HO6c.out hk).1)); have d0 : w6.cell? ⟨w.heap.size, 0, none⟩ = some (.int .i64 5) := (HB6.out.cell (p := ⟨w.heap.size, 0, none⟩) (show w.heap.size < W1.heap.size by omega)).trans (cell_of_row W1 w.heap.size 0 _ _ _ HR0.out); have d3 : w6.cell? ⟨w.heap.size, 3, none⟩ = some (.int .i64 U) := (HB6.out.cell (p := ⟨w.heap.size, 3, none⟩) (show w.heap.size < W1.heap.size by omega)).trans (cell_of_row W1 w.heap.size 3 _ _ _ HR0.out))
    obtain ⟨P6, hP6⟩ : ∃ P', P' = P5 ++ putNum A := ⟨_, rfl⟩
    have hPl : P6.length = P5.length + (putNum A).length := by rw [hP6]; simp
    have HO6 := Lib.hid (show w6.ownsRow W1.heap.size 5 1 (.slice a6 P6.length c6) P6.length (P6.map bv) from by rw [hPl, hP6, List.map_append]; exact o6)
    (try rw [← hPl])
    have HP6 := Lib.hid hP6
    have hq6 : P6.length ≤ 100 := by omega
    have hs6 := HB6.out.size
    clear o6 g6 hP6 hPl hs6c
    go_wp2_with fail
    refine (r15num U (by omega) _).mono ?_
    rintro e w7c ⟨a7c, c7c, rfl, hown7c, hb7c⟩
    have HO7c := Lib.hid (own_below' HO6.out hb7c)
    have HS7c := Lib.hid (slOf hown7c)
    have HB7c := Lib.hid (HB6.out.trans (hb7c.mono hs6))
    have hs7c := HB7c.out.size
    clear hown7c hb7c d0 d3
    go_wp2_with (at_builtin; go_must (refine wpList_append_sl _ rfl (.tmp 41) (.tmp 44) 22 rfl W1.heap.size 5 i0 (.int .u8 0) 1 1 Try.underlying22 hi hz0 hz1 hz2 rfl (by decide) (.slice a6 P6.length c6) P6.length (P6.map bv) rfl HO7c.out w7c.heap.size a7c (putNum U).length c7c ((putNum U).map bv) rfl HS7c.out (one_bv _) (by unfold maxLen; omega) (by omega) hs7c ?_); intro a7 c7 w7 o7 g7 _; have HB7 := Lib.hid (show Below W1.heap.size W1 w7 from HB7c.out.grown g7 hs7c (fun k hk => (own_lt HO7c.out hk).1)); have d0 : w7.cell? ⟨w.heap.size, 0, none⟩ = some (.int .i64 5) := (HB7.out.cell (p := ⟨w.heap.size, 0, none⟩) (show w.heap.size < W1.heap.size by omega)).trans (cell_of_row W1 w.heap.size 0 _ _ _ HR0.out); have d7 : w7.cell? ⟨w.heap.size, 7, none⟩ = some (.slice ba x.b.length bc) := (HB7.out.cell (p := ⟨w.heap.size, 7, none⟩) (show w.heap.size < W1.heap.size by omega)).trans (cell_of_row W1 w.heap.size 7 _ _ _ HR0.out))
    obtain ⟨P7, hP7⟩ : ∃ P', P' = P6 ++ putNum U := ⟨_, rfl⟩
    have hPl : P7.length = P6.length + (putNum U).length := by rw [hP7]; simp
    have HO7 := Lib.hid (show w7.ownsRow W1.heap.size 5 1 (.slice a7 P7.length c7) P7.length (P7.map bv) from by rw [hPl, hP7, List.map_append]; exact o7)
    (try rw [← hPl])
    have HP7 := Lib.hid hP7
    have hq7 : P7.length ≤ 200 := by omega
    have hs7 := HB7.out.size
    clear o7 g7 hP7 hPl hs7c
    have HS7 := Lib.hid (show C2 w.heap.size 7 7 (.slice ba x.b.length bc) (.slice ba x.b.length bc) w7 from ⟨d7, d7⟩)
    clear d7
    go_wp2_with fail
    refine wp_region_any (by kernel_rfl) ?_
    refine wpAny_of_held (S := C2 w.heap.size 7 7 (.slice ba x.b.length bc) (.slice ba x.b.length bc)) _ _ _ _ ?_
    have hdr : Below w7.heap.size w7 w7.drew := (Below.refl _ _).drew
    have hS0 := HS7.out.keep hdr (by omega)
    refine heldTake 0 104 rfl rfl (by kernel_rfl) (by kernel_rfl) (by kernel_rfl) (fun _ _ _ h => h) hS0 (.inl ⟨by rfl, by intro w' hS; obtain ⟨s1, s2⟩ := hS; go_simp; (try rfl)⟩) ?_
    simp only [List.set_cons_zero, List.set_cons_succ]
    refine heldTake 1 105 rfl rfl (by kernel_rfl) (by kernel_rfl) (by kernel_rfl) (fun _ _ _ h => h) hS0 (.inl ⟨by rfl, by intro w' hS; obtain ⟨s1, s2⟩ := hS; go_simp; (try rfl)⟩) ?_
    simp only [List.set_cons_zero, List.set_cons_succ]
    refine heldTake 2 106 rfl rfl (by kernel_rfl) (by kernel_rfl) (by kernel_rfl) (fun _ _ _ h => h) hS0 (.inl ⟨by rfl, by intro w' hS; obtain ⟨s1, s2⟩ := hS; go_simp; (try rfl)⟩) ?_
    simp only [List.set_cons_zero, List.set_cons_succ]
    refine heldTake 3 107 rfl rfl (by kernel_rfl) (by kernel_rfl) (by kernel_rfl) (fun _ _ _ h => h) hS0 (.inl ⟨by rfl, by intro w' hS; obtain ⟨s1, s2⟩ := hS; go_simp; (try rfl)⟩) ?_
    simp only [List.set_cons_zero, List.set_cons_succ]
    refine heldTake 6 110 rfl rfl (by kernel_rfl) (by kernel_rfl) (by kernel_rfl) (fun _ _ _ h => h) hS0 (.inl ⟨by rfl, by intro w' hS; obtain ⟨s1, s2⟩ := hS; go_simp; (try rfl)⟩) ?_
    simp only [List.set_cons_zero, List.set_cons_succ]
    refine heldTake 7 111 rfl rfl (by kernel_rfl) (by kernel_rfl) (by kernel_rfl) (fun _ _ _ h => h) hS0 (.inl ⟨by rfl, by intro w' hS; obtain ⟨s1, s2⟩ := hS; go_simp; (try rfl)⟩) ?_
    simp only [List.set_cons_zero, List.set_cons_succ]
    clear hS0
    refine heldOne 4 (by kernel_rfl) rfl (by rfl) ?_
    go_simp
    refine (r15num x.b.length (by omega) _).mono ?_
    rintro e w8 ⟨a8, c8, rfl, hown8, hb8⟩
    have hbb8 := hdr.trans hb8
    have HO8 := Lib.hid (own_below' HO7.out hbb8)
    have HS8 := Lib.hid (slOf hown8)
    have HB8 := Lib.hid (HB7.out.trans (hbb8.mono hs7))
    have hs8 := HB8.out.size
    have hS8 := HS7.out.keep hbb8 (by omega)
    refine ⟨hS8, ?_⟩
    clear hS8 hbb8 hown8 hb8 hdr
    refine heldOne 5 (by kernel_rfl) rfl (by rfl) ?_
    refine wp_append_sl w8 (.tmp 104) (.tmp 108) 22 rfl W1.heap.size 5 i0 (.int .u8 0) 1 1 Try.underlying22 hi hz0 hz1 hz2 rfl (by decide) (.slice a7 P7.length c7) P7.length (P7.map bv) rfl HO8.out w8.heap.size a8 (putNum x.b.length).length c8 ((putNum x.b.length).map bv) rfl HS8.out (one_bv _) (by unfold maxLen; omega) (by omega) hs8 ?_
    intro a9 c9 w9 o9 g9 _
    obtain ⟨P9, hP9⟩ : ∃ P', P' = P7 ++ putNum x.b.length := ⟨_, rfl⟩
    have hPl : P9.length = P7.length + (putNum x.b.length).length := by rw [hP9]; simp
    have HO9 := Lib.hid (show w9.ownsRow W1.heap.size 5 1 (.slice a9 P9.length c9) P9.length (P9.map bv) from by rw [hPl, hP9, List.map_append]; exact o9)
    have HB9 := Lib.hid (show Below W1.heap.size W1 w9 from HB8.out.grown g9 hs8 (fun k hk => (own_lt HO8.out hk).1))
    have HP9 := Lib.hid hP9
    rw [← hPl]
    have hq9 : P9.length ≤ 300 := by omega
    have hs9 := HB9.out.size
    have hS9 : C2 w.heap.size 7 7 (.slice ba x.b.length bc) (.slice ba x.b.length bc) w9 := ⟨(HB9.out.cell (p := ⟨w.heap.size, 7, none⟩) (show w.heap.size < W1.heap.size by omega)).trans (cell_of_row W1 w.heap.size 7 _ _ _ HR0.out), (HB9.out.cell (p := ⟨w.heap.size, 7, none⟩) (show w.heap.size < W1.heap.size by omega)).trans (cell_of_row W1 w.heap.size 7 _ _ _ HR0.out)⟩
    have HXS := Lib.hid (show SlAt w9 w9.heap.size 1 ba x.b.length bc (x.b.map bv) from ((H1.out.b.below HB9.out (by omega)).mono (by omega)).sl)
    refine ⟨hS9, ?_⟩
    clear hS9 o9 g9 hP9 hPl hs8
    refine heldOne 8 (by kernel_rfl) rfl (by rfl) ?_
    refine wp_append_sl w9 (.tmp 109) (.tmp 111) 22 rfl W1.heap.size 5 i0 (.int .u8 0) 1 1 Try.underlying22 hi hz0 hz1 hz2 rfl (by decide) (.slice a9 P9.length c9) P9.length (P9.map bv) rfl HO9.out w9.heap.size ba x.b.length bc (x.b.map bv) rfl HXS.out (one_bv _) (by unfold maxLen; omega) (by omega) hs9 ?_
    intro a10 c10 w10 o10 g10 _
    obtain ⟨P10, hP10⟩ : ∃ P', P' = P9 ++ x.b := ⟨_, rfl⟩
    have hPl : P10.length = P9.length + x.b.length := by rw [hP10]; simp
    have HO10 := Lib.hid (show w10.ownsRow W1.heap.size 5 1 (.slice a10 P10.length c10) P10.length (P10.map bv) from by rw [hPl, hP10, List.map_append]; exact o10)
    have HB10 := Lib.hid (show Below W1.heap.size W1 w10 from HB9.out.grown g10 hs9 (fun k hk => (own_lt HO9.out hk).1))
    have HP10 := Lib.hid hP10
    rw [← hPl]
    have hq10 : P10.length ≤ 80000 := by omega
    have hS10 : C2 w.heap.size 7 7 (.slice ba x.b.length bc) (.slice ba x.b.length bc) w10 := ⟨(HB10.out.cell (p := ⟨w.heap.size, 7, none⟩) (show w.heap.size < W1.heap.size by omega)).trans (cell_of_row W1 w.heap.size 7 _ _ _ HR0.out), (HB10.out.cell (p := ⟨w.heap.size, 7, none⟩) (show w.heap.size < W1.heap.size by omega)).trans (cell_of_row W1 w.heap.size 7 _ _ _ HR0.out)⟩
    refine ⟨hS10, ?_⟩
    clear o10 g10 hP10 hPl
    go_simp
    refine heldTake 9 3 rfl rfl (by kernel_rfl) (by kernel_rfl) (by kernel_rfl) (fun _ _ _ h => h) hS10 (.inl ⟨by rfl, by intro w' hS; obtain ⟨s1, s2⟩ := hS; go_simp; (try rfl)⟩) ?_
    simp only [List.set_cons_zero, List.set_cons_succ]
    refine wpAnyH_done (by kernel_rfl) ?_ _
    clear hS10
    have HLF := Lib.hid (show P = P10 by rw [HPL.out, HP10.out, HP9.out, HP7.out, HP6.out, HP5.out]; simp [putNums, putText, List.append_assoc])
    go_wp2
    (try rw [Exit.noGoto_ret])
    go_ret
    rw [HLF.out]
    obtain ⟨a99, c99, e99, h99⟩ := bsAt_of_owns HO10.out (by omega)
    injection e99 with e6 _ e8
    subst e6; subst e8
    exact ⟨a10, c10, rfl, h99, HB1.out.trans (HB10.out.mono (by omega))⟩
end Go.Proofs.Ytogcnfhmcpkdcaa

namespace Go.Proofs.Ytogcnfhmcpkdcaa
open Go.RowKit
set_option linter.unusedVariables false
set_option linter.unusedSimpArgs false

abbrev mm : Nat := 1099511627776
def getLet (l : List UInt8) : Res PLet :=
  (getNum 5 l).bind fun k r1 => if k = 0 then .err 25 else (getNum 1099511627776 r1).bind fun t r2 =>
  if k = 1 then (getNum 1099511627776 r2).bind fun a r3 => (getNum 1099511627776 r3).bind fun u r4 => .ok ⟨1, t, a, u, 0, false, [], []⟩ r4
  else if k = 2 then (getNum 1 r2).bind fun y r3 => .ok ⟨2, t, 0, 0, 0, y == 1, [], []⟩ r3
  else if k = 3 then (getNum 1099511627776 r2).bind fun a r3 => (getNum 1099511627776 r3).bind fun u r4 => (getNum 1099511627776 r4).bind fun o r5 => (getNum 16 r5).bind fun n r6 => (getItems n r6).bind fun its r7 => .ok ⟨3, t, a, u, o, false, its, []⟩ r7
  else if k = 4 then (getNum 1 r2).bind fun y r3 => (getNum 1099511627776 r3).bind fun a r4 => (getNum 1099511627776 r4).bind fun o r5 => .ok ⟨4, t, a, 0, o, y == 1, [], []⟩ r5
  else (getNum 1099511627776 r2).bind fun a r3 => (getNum 1099511627776 r3).bind fun u r4 => (getText 65536 r4).bind fun b r5 => .ok ⟨5, t, a, u, 0, false, [], b⟩ r5

theorem bind_iff {α β : Type} {r : Res α} {f : α → List UInt8 → Res β} {v : β} {rest : List UInt8} : r.bind f = .ok v rest ↔ ∃ a r', r = .ok a r' ∧ f a r' = .ok v rest := by
  cases r with
  | err x => simp [Res.bind]
  | ok a r' => exact ⟨fun h => ⟨a, r', rfl, h⟩, fun ⟨_, _, e, h⟩ => by cases e; exact h⟩

theorem sane_let (l : List UInt8) : (getLet l).sane := by
  unfold getLet
  refine Res.sane_bind (sane_num _ _) fun k r1 => ?_
  split
  · intro x h; cases h; decide
  refine Res.sane_bind (sane_num _ _) fun t r2 => ?_
  split
  · exact Res.sane_bind (sane_num _ _) fun _ _ => Res.sane_bind (sane_num _ _) fun _ _ => sane_ok _ _
  split
  · exact Res.sane_bind (sane_num _ _) fun _ _ => sane_ok _ _
  split
  · exact Res.sane_bind (sane_num _ _) fun _ _ => Res.sane_bind (sane_num _ _) fun _ _ => Res.sane_bind (sane_num _ _) fun _ _ => Res.sane_bind (sane_num _ _) fun _ _ => Res.sane_bind (sane_items _ _) fun _ _ => sane_ok _ _
  split
  · exact Res.sane_bind (sane_num _ _) fun _ _ => Res.sane_bind (sane_num _ _) fun _ _ => Res.sane_bind (sane_num _ _) fun _ _ => sane_ok _ _
  · exact Res.sane_bind (sane_num _ _) fun _ _ => Res.sane_bind (sane_num _ _) fun _ _ => Res.sane_bind (sane_text _ _) fun _ _ => sane_ok _ _

theorem getLet_put {x : PLet} (h : rightL x = true) (r : List UInt8) : getLet (putL x ++ r) = .ok x r := by
  obtain ⟨K, T, A, U, O, hx, hK1, hK5, hT, hA, hU, hO, hi, hb, hit, hus⟩ := rightL_nat h
  obtain ⟨k, t, a, u, o, y, its, b⟩ := x
  injection hx with e1 e2 e3 e4 e5
  subst e1 e2 e3 e4 e5
  change its.length ≤ 16 at hi
  change b.length ≤ 65536 at hb
  change ∀ it ∈ its, rightI it = true at hit
  have hy : getNum 1 (putNum (yn y) ++ r) = .ok (yn y) r := getNum_put _ _ _ (by cases y <;> simp [yn]) (by cases y <;> simp [yn])
  have hy2 : ∀ s, getNum 1 (putNum (yn y) ++ s) = .ok (yn y) s := fun s => getNum_put _ _ _ (by cases y <;> simp [yn]) (by cases y <;> simp [yn])
  have hyy : (yn y == 1) = y := by cases y <;> rfl
  have hK : K = 1 ∨ K = 2 ∨ K = 3 ∨ K = 4 ∨ K = 5 := by omega
  rcases hK with rfl | rfl | rfl | rfl | rfl
  all_goals
    simp [usedL] at hus
    simp only [getLet, putL, putNums, List.append_assoc, List.nil_append, List.append_nil]
    simp
    rw [getNum_put _ _ _ (by omega) (by omega), Res.bind_ok]
    simp
    rw [getNum_put _ _ _ (by omega) (by omega), Res.bind_ok]
    try rw [hy2, Res.bind_ok, hyy]
    try rw [getNum_put _ _ _ (by omega) (by omega), Res.bind_ok]
    try rw [getNum_put _ _ _ (by omega) (by omega), Res.bind_ok]
    try rw [getNum_put _ _ _ (by omega) (by omega), Res.bind_ok]
    try rw [getNum_put _ _ _ (by omega) (by omega), Res.bind_ok]
    try rw [getItems_put _ hit, Res.bind_ok]
    try rw [getText_put _ _ _ (by omega) hb, Res.bind_ok]
    simp [hus]

theorem getLet_ok {l rest : List UInt8} {x : PLet} (h : getLet l = .ok x rest) : l = putL x ++ rest ∧ rightL x = true := by
  unfold getLet at h
  obtain ⟨k, r1, h1, h⟩ := bind_iff.1 h
  have p1 := get_put h1
  have m1 := getNum_most h1
  by_cases hk0 : k = 0
  · rw [if_pos hk0] at h; cases h
  rw [if_neg hk0] at h
  obtain ⟨t, r2, h2, h⟩ := bind_iff.1 h
  have p2 := get_put h2
  have m2 := getNum_most h2
  have hk : k = 1 ∨ k = 2 ∨ k = 3 ∨ k = 4 ∨ k = 5 := by omega
  rcases hk with rfl | rfl | rfl | rfl | rfl
  · simp at h
    obtain ⟨a, r3, h3, h⟩ := bind_iff.1 h
    obtain ⟨u, r4, h4, h⟩ := bind_iff.1 h
    have p3 := get_put h3
    have m3 := getNum_most h3
    have p4 := get_put h4
    have m4 := getNum_most h4
    cases h
    refine ⟨by simp [putL, putNums, p1, p2, p3, p4], ?_⟩
    simp [rightL, inM, sameL, usedL]
    omega
  · simp at h
    obtain ⟨y, r3, h3, h⟩ := bind_iff.1 h
    have p3 := get_put h3
    have m3 := getNum_most h3
    cases h
    have hy : y = 0 ∨ y = 1 := by omega
    refine ⟨by rcases hy with rfl | rfl <;> simp [putL, putNums, p1, p2, p3, yn], ?_⟩
    simp [rightL, inM, sameL, usedL]
    omega
  · simp at h
    obtain ⟨a, r3, h3, h⟩ := bind_iff.1 h
    obtain ⟨u, r4, h4, h⟩ := bind_iff.1 h
    obtain ⟨o, r5, h5, h⟩ := bind_iff.1 h
    obtain ⟨n, r6, h6, h⟩ := bind_iff.1 h
    obtain ⟨its, r7, h7, h⟩ := bind_iff.1 h
    have p3 := get_put h3
    have m3 := getNum_most h3
    have p4 := get_put h4
    have m4 := getNum_most h4
    have p5 := get_put h5
    have m5 := getNum_most h5
    have p6 := get_put h6
    have m6 := getNum_most h6
    obtain ⟨q1, q2, q3⟩ := getItems_ok h7
    cases h
    subst q1
    refine ⟨by simp [putL, putNums, p1, p2, p3, p4, p5, p6, q2], ?_⟩
    simp [rightL, inM, sameL, usedL]
    refine ⟨by omega, by omega, by omega, fun t b hm => q3 (t, b) hm⟩
  · simp at h
    obtain ⟨y, r3, h3, h⟩ := bind_iff.1 h
    obtain ⟨a, r4, h4, h⟩ := bind_iff.1 h
    obtain ⟨o, r5, h5, h⟩ := bind_iff.1 h
    have p3 := get_put h3
    have m3 := getNum_most h3
    have p4 := get_put h4
    have m4 := getNum_most h4
    have p5 := get_put h5
    have m5 := getNum_most h5
    cases h
    have hy : y = 0 ∨ y = 1 := by omega
    refine ⟨by rcases hy with rfl | rfl <;> simp [putL, putNums, p1, p2, p3, p4, p5, yn], ?_⟩
    simp [rightL, inM, sameL, usedL]
    omega
  · simp at h
    obtain ⟨a, r3, h3, h⟩ := bind_iff.1 h
    obtain ⟨u, r4, h4, h⟩ := bind_iff.1 h
    obtain ⟨b, r5, h5, h⟩ := bind_iff.1 h
    have p3 := get_put h3
    have m3 := getNum_most h3
    have p4 := get_put h4
    have m4 := getNum_most h4
    obtain ⟨q1, q2⟩ := text_put h5
    cases h
    refine ⟨by simp [putL, putNums, p1, p2, p3, p4, q1], ?_⟩
    simp [rightL, inM, sameL, usedL]
    omega

/-- right letters have one form just if they are the same -/
theorem putL_inj {x z : PLet} (hx : rightL x = true) (hz : rightL z = true) (h : putL x = putL z) : x = z := by
  have h1 := getLet_put hx []
  have h2 := getLet_put hz []
  rw [h, h2] at h1
  injection h1 with h3
  exact h3.symm
end Go.Proofs.Ytogcnfhmcpkdcaa
