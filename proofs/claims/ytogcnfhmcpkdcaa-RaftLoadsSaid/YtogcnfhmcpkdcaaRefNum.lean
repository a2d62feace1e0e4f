/-
  Contract of the reference's Num: a number's bytes.
-/
import Derived.Test.YtogcnfhmcpkdcaaField4
import Derived.Test.YtogcnfhmcpkdcaaPenLaw
import Derived.Test.YtogcnfhmcpkdcaaAppendSl
namespace Go.Proofs.Ytogcnfhmcpkdcaa
open Go.RowKit
set_option linter.unusedVariables false

theorem le_get : ∀ (i n : Nat), i < (le n).length → (le n)[i]? = some (UInt8.ofNat (n / 256 ^ i))
  | i, 0, h => by simp [le_zero] at h
  | 0, n + 1, _ => by rw [le_pos (by omega)]; simp
  | i + 1, n + 1, h => by
    rw [le_pos (by omega)] at h ⊢
    have := le_get i ((n + 1) / 256) (by simpa using h)
    simp only [List.getElem?_cons_succ, this]
    rw [Nat.div_div_eq_div_mul, Nat.pow_succ, Nat.mul_comm]

theorem drop_rev (l : List UInt8) (j : Nat) (c : UInt8) (h : l[j]? = some c) : (l.drop j).reverse = (l.drop (j + 1)).reverse ++ [c] := by
  obtain ⟨hj, he⟩ := List.getElem?_eq_some_iff.1 h
  rw [List.drop_eq_getElem_cons hj, List.reverse_cons, he]

set_option maxRecDepth 100000 in
set_option maxHeartbeats 2000000 in
theorem refNum (n : Nat) (hn64 : n < 18446744073709551616) (w : World) :
    Calls Try.prog 117 #[.int .u64 n] w fun e w' => ∃ a c, e = .returned (.slice a (putNum n).length c) ∧ w'.ownsRow w.heap.size 5 1 (.slice a (putNum n).length c) (putNum n).length ((putNum n).map bv) ∧ Below w.heap.size w w' := by
  obtain ⟨i0, hi, hz0, hz1, hz2⟩ := info_parts infoU8
  have hl8 := le_len8 hn64
  obtain ⟨L, hL⟩ : ∃ L, L = le n := ⟨_, rfl⟩
  have hget : ∀ i, i < L.length → L[i]? = some (UInt8.ofNat (n / 256 ^ i)) := fun i hi => by rw [hL] at hi ⊢; exact le_get i n hi
  have hP : putNum n = UInt8.ofNat L.length :: L.reverse := by rw [hL]; rfl
  rw [← hL] at hl8
  have HL := Lib.hid hL
  have HG := Lib.hid hget
  have HP := Lib.hid hP
  clear hL hget hP
  go_enter Try.func117, Try.ntmps117
  go_wp2_with fail
  go_loopw [3, 4] (fun kv vv wr => ∃ (m : Nat) (xs : List UInt8), kv = .int .i64 xs.length ∧ vv = .int .u64 m ∧ xs ++ le m = L ∧ m < 18446744073709551616 ∧ w = wr)
    (fun _ vv _ => (intOf vv).toNat)
  case atStart => exact ⟨n, [], rfl, rfl, by rw [HL.out]; rfl, hn64, rfl⟩
  case round =>
    obtain ⟨m, xs, rfl, rfl, hxs, hm, rfl⟩ := hrel
    have hxl : xs.length ≤ 8 := by rw [← hxs] at hl8; simp at hl8; omega
    by_cases hm0 : 0 < m
    · have t1 : decide ((0 : Int) < (m : Int)) = true := by simp; omega
      have hle := le_pos hm0
      have HX := Lib.hid hxs
      have HLE := Lib.hid hle
      clear hxs hle
      go_wp2
      go_roundw
      case rel => exact ⟨m / 256, xs ++ [UInt8.ofNat m], by simp; try omega, by go_num, by rw [← HX.out, HLE.out]; simp, by omega, trivial⟩
      case measure => simp [intOf]; omega
    · have hm1 : m = 0 := by omega
      subst hm1
      rw [show ((0 : Nat) : Int) = 0 from rfl]
      rw [le_zero, List.append_nil] at hxs
      subst hxs
      have hk8 : (xs.length : Int) % 256 = (xs.length : Int) := by omega
      go_wp2
      go_loopw [5, 6] (fun ov iv w5 => ∃ (j : Nat) (a : Option Addr) (c : Nat), j ≤ xs.length ∧ iv = .int .i64 ((j : Int) - 1) ∧ ov = .slice a (1 + (xs.length - j)) c ∧
          w5.ownsRow w.heap.size 5 1 (.slice a (1 + (xs.length - j)) c) (1 + (xs.length - j)) ((UInt8.ofNat xs.length :: (xs.drop j).reverse).map bv) ∧ Below w.heap.size w w5)
        (fun _ iv _ => (intOf iv + 1).toNat)
      case atStart =>
        refine ⟨xs.length, some ⟨w.heap.size, 0, none⟩, 1, Nat.le_refl _, rfl, by simp, ?_, (Below.refl _ _).alloc (Nat.le_refl _) _⟩
        have h1 := ownsRow_one w w.heap.size (Nat.le_refl _) (.int .u8 (xs.length : Int)) 5
        have e1 : (UInt8.ofNat xs.length :: (xs.drop xs.length).reverse).map bv = [.int .u8 (xs.length : Int)] := by simp [bv]; omega
        rw [e1, Nat.sub_self]
        exact h1
      case round =>
        obtain ⟨j, a, c, hj, rfl, rfl, hown, hbel⟩ := hrel
        by_cases hj0 : j = 0
        · subst hj0
          have HB := Lib.hid hbel
          have HO := Lib.hid hown
          clear hbel hown
          go_wp2
          go_ret
          have hlen : (putNum n).length = 1 + (xs.length - 0) := by rw [HP.out]; simp; omega
          refine ⟨a, c, by rw [hlen]; rfl, ?_, HB.out⟩
          rw [hlen, HP.out]
          exact HO.out
        · obtain ⟨i, rfl⟩ : ∃ i, j = i + 1 := ⟨j - 1, by omega⟩
          rw [show (((i + 1 : Nat) : Int) - 1) = (i : Int) by omega]
          have hc := HG.out i (by omega)
          have hdr := drop_rev xs i _ hc
          have HD := Lib.hid hdr
          have HB := Lib.hid hbel
          have HO := Lib.hid (hown.alloc (.cells #[.int .u8 (((n / 256 ^ i : Nat) : Int) % 256)] 5))
          have hsz := hbel.size
          have hx : (n : Int) / 2 ^ (8 * (i : Int)).toNat = ((n / 256 ^ i : Nat) : Int) := by
            rw [show (8 * (i : Int)).toNat = 8 * i by omega, show (256 : Nat) ^ i = 2 ^ (8 * i) by rw [Nat.pow_mul]]
            simp
          obtain ⟨y, hy⟩ : ∃ y, y = n / 256 ^ i := ⟨_, rfl⟩
          rw [← hy] at hx HO HD
          clear hbel hown hc hdr hy
          go_wp2_with (at_builtin; refine wpList_append_sl _ rfl _ _ 22 rfl w.heap.size 5 i0 (.int .u8 0) 1 1 Try.underlying22 hi hz0 hz1 hz2 rfl (by decide) _ _ _ rfl HO.out (wr.heap.size + 1) (some ⟨wr.heap.size, 0, none⟩) 1 1 [.int .u8 ((y : Int) % 256)] rfl (slAt_one wr _ _) (one_oneCell rfl) ?c1 ?c2 ?c3 ?_)
          case c1 => unfold maxLen; omega
          case c2 => omega
          case c3 => simp; omega
          intro a' c' w6 hown6 hgrow6 hat6
          have hfin : Below w.heap.size w w6 := (HB.out.alloc hsz _).grown hgrow6 (by simp; omega) (fun k hk => (own_lt HO.out hk).1)
          have hrow : w6.ownsRow w.heap.size 5 1 (.slice a' (1 + (xs.length - i)) c') (1 + (xs.length - i)) ((UInt8.ofNat xs.length :: (xs.drop i).reverse).map bv) := by
            have e2 : (UInt8.ofNat xs.length :: (xs.drop i).reverse).map bv = (UInt8.ofNat xs.length :: (xs.drop (i + 1)).reverse).map bv ++ [.int .u8 ((y : Int) % 256)] := by
              rw [HD.out]; simp [bv]
            rw [e2, show 1 + (xs.length - i) = 1 + (xs.length - (i + 1)) + 1 by omega]
            simpa using hown6
          have hnn : 1 + (xs.length - (i + 1)) + 1 = 1 + (xs.length - i) := by omega
          have HF := Lib.hid hfin
          have HR := Lib.hid hrow
          rw [hnn]
          clear hfin hrow hown6 hgrow6 hat6 hnn
          go_wp2
          go_roundw
          case rel => exact ⟨i, a', c', by omega, rfl, rfl, HR.out, HF.out⟩
          case measure => simp [intOf]
end Go.Proofs.Ytogcnfhmcpkdcaa
