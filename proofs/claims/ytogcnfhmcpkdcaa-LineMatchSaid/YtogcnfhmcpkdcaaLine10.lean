/-
  A line filled from another one by pieces: contract of filled.
-/
import Derived.Test.YtogcnfhmcpkdcaaLine9
import Derived.Test.YtogcnfhmcpkdcaaLine6
import Derived.Test.YtogcnfhmcpkdcaaFillLaw
namespace Go.Proofs.Ytogcnfhmcpkdcaa
open Go.RowKit
set_option linter.unusedVariables false
set_option linter.unusedSimpArgs false

/-- filled's loop, at a round's head -/
structure FilAt (A : List PItem) (n : Nat) (w wr : World) (i k : Nat) (la : Option Addr) (lc : Nat) (ms : List MItem) : Prop where
  le : i ≤ n
  kl : k ≤ A.length
  ln : LnAt wr w.heap.size w.heap.size (fil A k) la lc ms
  bel : Below w.heap.size w wr
  sz : w.heap.size ≤ wr.heap.size

set_option maxRecDepth 100000 in
set_option maxHeartbeats 2000000 in
theorem l17filled (ms : List MItem) (a : Option Addr) (c : Nat) (hlen : ms.length ≤ 20) (hr : ∀ it ∈ ms.map MItem.it, rightI it = true) (pb : List UInt8) (pa : Option Addr) (pc : Nat) (w : World) (h : ItemsAt w w.heap.size a ms.length c ms) (hb : BsAt w w.heap.size pa pb.length pc pb) (ha : ∀ ad, a = some ad → ad.block < w.heap.size) :
    Calls Try.prog 48 #[.slice a ms.length c, .slice pa pb.length pc] w fun e w' => ∃ k la lc ms', k ≤ ms.length ∧ e = .returned (.pointer (some ⟨w.heap.size, 0, none⟩)) ∧ LnAt w' w.heap.size w.heap.size (fil (ms.map MItem.it) k) la lc ms' ∧ Below w.heap.size w w' := by
  have H := Lib.hid h
  have HB := Lib.hid hb
  have HR := Lib.hid hr
  have HA := Lib.hid ha
  have hcn : ms.length ≤ c := h.sl.hle
  have hpb := hb.hbig
  obtain ⟨A, hA⟩ : ∃ A, A = ms.map MItem.it := ⟨_, rfl⟩
  have hAl : A.length = ms.length := by rw [hA]; simp
  rw [← hA] at HR ⊢
  have HAA := Lib.hid hA
  have HAL := Lib.hid hAl
  clear h hb hr ha hA hAl
  go_enter Try.func48, Try.ntmps48
  go_wp2_with fail
  refine (lineNew_yes 0 0 (by rfl) _).mono ?_
  rintro e w1 ⟨rfl, hl1, hb1, hs1⟩
  have HI0 := Lib.hid (show FilAt A pb.length w w1 0 0 none 0 [] from ⟨by omega, by omega, hl1, hb1, by omega⟩)
  clear hl1 hb1
  go_wp2_with fail
  go_loopw [6] (fun iv wr => ∃ (i k : Nat) (la : Option Addr) (lc : Nat) (ms2 : List MItem), iv = .int .i64 i ∧ FilAt A pb.length w wr i k la lc ms2) (fun iv _ => pb.length - (intOf iv).toNat)
  case atStart => exact ⟨0, 0, none, 0, [], rfl, HI0.out⟩
  case round =>
    obtain ⟨i, k, la, lc, ms2, rfl, hI⟩ := hrel
    have HI := Lib.hid hI
    have hile := hI.le
    have hkl := hI.kl
    rw [HAL.out] at hkl
    have hsz := hI.sz
    have hpl := hI.ln.lt
    clear hI
    by_cases hlt : i < pb.length
    · obtain ⟨b, o, rfl, hbb, hc⟩ := HB.out.hat (by omega)
      obtain ⟨y, hy⟩ : ∃ y : Nat, (pb.getD i 0).toNat = y := ⟨_, rfl⟩
      have hy256 : y < 256 := by rw [← hy]; exact UInt8.toNat_lt _
      have hcx : wr.cell? ⟨b, o + i, none⟩ = some (.int .u8 (y : Int)) := by rw [← hy]; exact (HI.out.bel.cell (p := ⟨b, o + i, none⟩) hbb).trans (hc i hlt)
      have hk0 : (0 : Int) ≤ (i : Int) := by omega
      have hk1 : (i : Int) < (pb.length : Int) := by omega
      clear hc hy
      obtain ⟨at_, hat⟩ : ∃ at_ : Nat, y % 16 % (ms.length + 1) = at_ := ⟨_, rfl⟩
      have hatl : at_ ≤ ms.length := by
        have h9 := Nat.mod_lt (y % 16) (show 0 < ms.length + 1 by omega)
        omega
      obtain ⟨q, hq⟩ : ∃ q : Nat, (y : Int) / 16 = (q : Int) := ⟨y / 16, by omega⟩
      obtain ⟨dd, hdd⟩ : ∃ dd : Nat, (ms.length : Int) - (at_ : Int) = (dd : Int) := ⟨ms.length - at_, by omega⟩
      obtain ⟨n, hn⟩ : ∃ n : Nat, min q dd = n := ⟨_, rfl⟩
      have hnI : min (q : Int) (dd : Int) = (n : Int) := by omega
      have hnle : at_ + n ≤ ms.length := by omega
      obtain ⟨t, ht⟩ : ∃ t : Int, t = if at_ = 0 then 0 else (A.getD (at_ - 1) (0, [])).1 := ⟨_, rfl⟩
      obtain ⟨j, k', hk', hjoin⟩ := fil_join HI.out.kl (by rw [HAL.out]; omega) HR.out (a := at_) (n := n) (by rw [HAL.out]; exact hnle) ht
      obtain ⟨g, hg⟩ : ∃ g, decide (at_ ≤ k) = g := ⟨_, rfl⟩
      rw [hg] at hjoin
      have HJOIN := Lib.hid hjoin
      have HK' := Lib.hid hk'
      have HT := Lib.hid ht
      have HAT := Lib.hid hat
      have HG := Lib.hid hg
      clear hjoin hk' ht hat
      go_wp2_with fail
      refine (r1Pick (y % 16) (ms.length + 1) (by omega) (by omega) (by omega) _).mono ?_
      rintro e w2 ⟨rfl, rfl⟩
      rw [HAT.out]
      obtain ⟨Aj, hAj⟩ : ∃ Aj, (if c = at_ then a else Option.map (fun x => x.add (at_ * 2)) a) = Aj := ⟨_, rfl⟩
      have hjt : ItemsAt wr wr.heap.size Aj n (c - at_) ((ms.drop at_).take n) := by
        have h0 : ItemsAt wr wr.heap.size a ms.length c ms := (H.out.below HI.out.bel (Nat.le_refl _)).mono hsz
        have hf := h0.from_ (k := at_) (by omega)
        have hc2 := hf.sl.hle
        rw [← hAj]
        refine ⟨?_, fun m hm => hf.bs m (List.mem_of_mem_take hm)⟩
        have h9 := hf.sl.upto (k := n) (m := c - at_) (by omega) (by omega) (by omega)
        rw [cellsM_take] at h9
        exact h9
      have hjl : ((ms.drop at_).take n).length = n := by simp; omega
      have hne : ∀ ad, Aj = some ad → ad.block ≠ w.heap.size := by
        rw [← hAj]
        exact blk_ne (fun ad e => by have h9 := HA.out ad e; omega)
      have hmap : ((ms.drop at_).take n).map MItem.it = (A.drop at_).take n := by rw [List.map_take, List.map_drop, HAA.out]
      have HG2 := Lib.hid (fil_good HI.out.kl (by rw [HAL.out]; omega) HR.out)
      have HJ := Lib.hid (fun (mm : Nat) => by
        have h9 := lineJoin w.heap.size w.heap.size (fil A k) HG2.out la lc ms2 at_ t ((ms.drop at_).take n) Aj (c - at_) (wr.drewN mm) (HI.out.ln.drewN mm) (by rw [hjl]; exact hjt.below (below_drewN _ _) (Nat.le_refl _)) (by omega) hne hsz
        rw [hjl, hmap, HJOIN.out] at h9
        exact h9)
      have hca : at_ + n ≤ c := by omega
      have hca2 : at_ ≤ at_ + n := by omega
      clear hjt hne hmap hjl
      have LAST := Lib.hid (show (fil A k).last = (k : Int) from fil_last HI.out.kl)
      by_cases hz : at_ = 0
      · have ht0 : t = 0 := by rw [HT.out, if_pos hz]
        have hp : decide (0 < at_) = false := by simp; omega
        subst ht0
        clear hz
        go_wp2_with fail
        refine (lineLast w.heap.size w.heap.size (fil A k) HG2.out la lc ms2 _ HI.out.ln).mono ?_
        rintro e w4 ⟨rfl, m4, rfl⟩
        rw [LAST.out]
        obtain ⟨ty, hty⟩ : ∃ ty, (tmIs (fil A k) k).1 = ty := ⟨_, rfl⟩
        rw [hty]
        clear hty
        go_wp2_with fail
        refine (HJ.out m4).mono ?_
        rintro e w5 ⟨rfl, la5, lc5, ms5, hl5, ht5, ho5⟩
        have hs5 : wr.heap.size ≤ w5.heap.size := ht5.size
        have hT5 := (HI.out.ln.drewN m4).turn ht5 (Nat.le_refl _) (show w.heap.size ≤ wr.heap.size by omega)
        have HFN := Lib.hid (show FilAt A pb.length w w5 (i + 1) k' la5 lc5 ms5 from ⟨by omega, HK'.out, hl5, HI.out.bel.trans (((below_drewN wr m4).mono hsz).trans hT5), by omega⟩)
        clear hl5 ht5 ho5 hT5
        go_wp2
        go_roundw
        case rel => exact ⟨i + 1, k', la5, lc5, ms5, by go_num, HFN.out⟩
        case measure => simp [intOf]; omega
      · obtain ⟨at1, hat1⟩ : ∃ at1 : Nat, (at_ : Int) - 1 = (at1 : Int) := ⟨at_ - 1, by omega⟩
        have hat2 : at_ - 1 = at1 := by omega
        obtain ⟨m1, hm1⟩ : ∃ m1, ms[at1]? = some m1 := ⟨_, List.getElem?_eq_getElem (by omega)⟩
        have h0 : ItemsAt wr w.heap.size a ms.length c ms := H.out.below HI.out.bel (Nat.le_refl _)
        obtain ⟨b2, o2, rfl, hb2, c0, -⟩ := h0.cell hm1
        have htm : t = m1.t := by
          rw [HT.out, if_neg hz, HAA.out, hat2]
          simp [List.getD, hm1]
        subst htm
        have hp : decide (0 < at_) = true := by simp; omega
        have hAj2 : (if c = at_ then some (⟨b2, o2, none⟩ : Addr) else some ⟨b2, o2 + at_ * 2, none⟩) = Aj := by
          rw [← hAj]
          by_cases hh : c = at_
          · rw [if_pos hh, if_pos hh]
          · rw [if_neg hh, if_neg hh, Option.map_some]
            simp only [Addr.add]
            try (split <;> first | rfl | omega | simp_all)
        clear hAj
        have hi1 : (at1 : Int) < (ms.length : Int) := by omega
        have hi0 : (0 : Int) ≤ (at1 : Int) := by omega
        clear hz h0 hm1 hat2
        go_wp2_with fail
        refine (lineLast w.heap.size w.heap.size (fil A k) HG2.out la lc ms2 _ HI.out.ln).mono ?_
        rintro e w4 ⟨rfl, m4, rfl⟩
        rw [LAST.out]
        obtain ⟨ty, hty⟩ : ∃ ty, (tmIs (fil A k) k).1 = ty := ⟨_, rfl⟩
        rw [hty]
        clear hty
        go_wp2_with fail
        refine (HJ.out m4).mono ?_
        rintro e w5 ⟨rfl, la5, lc5, ms5, hl5, ht5, ho5⟩
        have hs5 : wr.heap.size ≤ w5.heap.size := ht5.size
        have hT5 := (HI.out.ln.drewN m4).turn ht5 (Nat.le_refl _) (show w.heap.size ≤ wr.heap.size by omega)
        have HFN := Lib.hid (show FilAt A pb.length w w5 (i + 1) k' la5 lc5 ms5 from ⟨by omega, HK'.out, hl5, HI.out.bel.trans (((below_drewN wr m4).mono hsz).trans hT5), by omega⟩)
        clear hl5 ht5 ho5 hT5
        go_wp2
        go_roundw
        case rel => exact ⟨i + 1, k', la5, lc5, ms5, by go_num, HFN.out⟩
        case measure => simp [intOf]; omega
    · have hin : i = pb.length := by omega
      subst hin
      go_wp2
      go_ret
      rw [HAL.out] at *
      exact ⟨k, la, lc, ms2, hkl, rfl, HI.out.ln, HI.out.bel⟩
end Go.Proofs.Ytogcnfhmcpkdcaa
