/-
  The laws LetterForms and LetterSame: the walks.
-/
import Derived.Test.YtogcnfhmcpkdcaaLaw15a
import Derived.Test.YtogcnfhmcpkdcaaLet3
import Derived.Test.YtogcnfhmcpkdcaaLetM2
import Derived.Test.YtogcnfhmcpkdcaaLet8
import Derived.Test.YtogcnfhmcpkdcaaLetM3
import Derived.Test.YtogcnfhmcpkdcaaOpenLet
namespace Go.Proofs.Ytogcnfhmcpkdcaa
open Go.RowKit
set_option linter.unusedVariables false
set_option linter.unusedSimpArgs false

set_option maxRecDepth 100000 in
set_option maxHeartbeats 1000000 in
theorem letterForms_calls (x : PLet) (ia : Option Addr) (ic : Nat) (ms : List MItem) (ba : Option Addr) (bc : Nat) (w : World) (h : LetRdAt w w.heap.size x ia ic ms ba bc) :
    Calls Try.prog 14 #[.agg (lcell x ia ms.length ic ba bc)] w fun e w' => e = .returned (.bool true) ∧ Below w.heap.size w w' := by
  obtain ⟨W1, hW1⟩ : ∃ W1, W1 = w.alloc (.cells (lcell x ia ms.length ic ba bc) 111) := ⟨_, rfl⟩
  have HW1 := Lib.hid hW1
  have hs1 : w.heap.size < W1.heap.size := by rw [hW1]; simp
  have hb1 : Below w.heap.size w W1 := by rw [hW1]; exact (Below.refl _ _).alloc (Nat.le_refl _) _
  have hr1 : W1.heap[w.heap.size]? = some (.cells (lcell x ia ms.length ic ba bc) 111 (0, 0)) := by rw [hW1]; exact heap_alloc_new w _
  have HB1 := Lib.hid hb1
  have HR1 := Lib.hid hr1
  have HRD := Lib.hid (show LetRdAt W1 W1.heap.size x ia ic ms ba bc from ⟨(h.below hb1 (Nat.le_refl _)).sl.mono hb1.size, fun m hm => ⟨(h.its m hm).ln, fun hn => (((h.below hb1 (Nat.le_refl _)).its m hm).bs hn).mono hb1.size⟩, h.eq, fun hn => ((h.below hb1 (Nat.le_refl _)).b hn).mono hb1.size⟩)
  clear h hW1
  obtain ⟨c0, c1, c2, c3, c4, c5, c6, c7⟩ := letCells hr1
  rw [HW1.out] at c0 c1 c2 c3 c4 c5 c6 c7
  clear hr1
  go_enter Try.func14, Try.ntmps14
  go_wp2_with fail
  rw [← HW1.out] at c0 c1 c2 c3 c4 c5 c6 c7 ⊢
  refine (r15Great x ia ic ms ba bc _ HRD.out.sl HRD.out.its).mono ?_
  rintro e w2 ⟨rfl, hb2⟩
  have HB2 := Lib.hid (hb1.trans (hb2.mono hb1.size))
  have hr2 := (hb2.block _ hs1).trans HR1.out
  have HR2 := Lib.hid hr2
  have hs2 : w.heap.size < w2.heap.size := Nat.lt_of_lt_of_le hs1 hb2.size
  cases hG : greatL ms x.b.length with
  | true =>
    clear hb1 hb2 hr2 c0 c1 c2 c3 c4 c5 c6 c7
    go_wp2_with fail
    refine (l15awake _).mono ?_
    rintro e w5 ⟨rfl, hb5⟩
    have HB5 := Lib.hid (HB2.out.trans (hb5.mono HB2.out.size))
    clear hb5
    go_wp2
    go_ret
    exact ⟨rfl, HB5.out⟩
  | false =>
    obtain ⟨hg1, hg2, hg3⟩ := greatL_no hG
    have HL1 := Lib.hid (HRD.out.at hg3 hg2)
    have HL2 := Lib.hid (HL1.out.on hb2)
    clear hb1 hb2 c0 c1 c2 c3 c4 c5 c6 c7 hG hg3
    obtain ⟨c0, c1, c2, c3, c4, c5, c6, c7⟩ := letCells hr2
    clear hr2
    go_wp2_with fail
    refine (letterPut x ia ic ms ba bc (by omega) _ HL2.out).mono ?_
    rintro e w3 ⟨hc, hb3⟩
    have HB3 := Lib.hid (HB2.out.trans (hb3.mono HB2.out.size))
    have HL3 := Lib.hid (HL2.out.on hb3)
    have hr3 := (hb3.block _ hs2).trans HR2.out
    have HR3 := Lib.hid hr3
    have hs3 : w.heap.size < w3.heap.size := Nat.lt_of_lt_of_le hs2 hb3.size
    clear hb3 c0 c1 c2 c3 c4 c5 c6 c7
    obtain ⟨c0, c1, c2, c3, c4, c5, c6, c7⟩ := letCells hr3
    clear hr3
    rcases hc with ⟨hR, rfl⟩ | ⟨hR, pa, pc, rfl, hbs3⟩
    · go_wp2_with fail
      refine (r15Right x ia ic ms ba bc _ HL3.out).mono ?_
      rintro e w4 ⟨rfl, hb4⟩
      rw [hR]
      have HB4 := Lib.hid (HB3.out.trans (hb4.mono HB3.out.size))
      have HL4 := Lib.hid (HL3.out.on hb4)
      have hr4 := (hb4.block _ hs3).trans HR3.out
      clear hb4 c0 c1 c2 c3 c4 c5 c6 c7
      obtain ⟨c0, c1, c2, c3, c4, c5, c6, c7⟩ := letCells hr4
      clear hr4
      have HR := Lib.hid hR
      clear hR
      go_wp2_with fail
      refine (letterRight x ia ic ms ba bc (by omega) _ HL4.out).mono ?_
      rintro e w5 ⟨rfl, hb5⟩
      rw [HR.out]
      have HB5 := Lib.hid (HB4.out.trans (hb5.mono HB4.out.size))
      clear hb5 c0 c1 c2 c3 c4 c5 c6 c7
      go_wp2_with fail
      refine (l15awake _).mono ?_
      rintro e w6 ⟨rfl, hb6⟩
      have HB6 := Lib.hid (HB5.out.trans (hb6.mono HB5.out.size))
      clear hb6
      go_wp2
      go_ret
      exact ⟨rfl, HB6.out⟩
    · have HBS3 := Lib.hid hbs3
      have HR := Lib.hid hR
      have hq := outLet_put hR
      have HQ := Lib.hid hq
      have hlen := right_len hR
      clear hbs3 hR hq
      go_wp2_with fail
      refine (r15Right x ia ic ms ba bc _ HL3.out).mono ?_
      rintro e w4 ⟨rfl, hb4⟩
      rw [HR.out]
      have HB4 := Lib.hid (HB3.out.trans (hb4.mono HB3.out.size))
      have HL4 := Lib.hid (HL3.out.on hb4)
      have HBS4 := Lib.hid (HBS3.out.on hb4)
      have hr4 := (hb4.block _ hs3).trans HR3.out
      have HR4 := Lib.hid hr4
      have hs4 : w.heap.size < w4.heap.size := Nat.lt_of_lt_of_le hs3 hb4.size
      clear hb4 c0 c1 c2 c3 c4 c5 c6 c7
      obtain ⟨c0, c1, c2, c3, c4, c5, c6, c7⟩ := letCells hr4
      clear hr4
      go_wp2_with fail
      refine (letterRight x ia ic ms ba bc (by omega) _ HL4.out).mono ?_
      rintro e w5 ⟨rfl, hb5⟩
      rw [HR.out]
      have HB5 := Lib.hid (HB4.out.trans (hb5.mono HB4.out.size))
      have HL5 := Lib.hid (HL4.out.on hb5)
      have HBS5 := Lib.hid (HBS4.out.on hb5)
      have HR5 := Lib.hid ((hb5.block _ hs4).trans HR4.out)
      have hs5 : w.heap.size < w5.heap.size := Nat.lt_of_lt_of_le hs4 hb5.size
      clear hb5 c0 c1 c2 c3 c4 c5 c6 c7
      go_wp2_with fail
      refine (letterRead (putL x) pa (putL x).length pc _ HBS5.out).mono ?_
      rintro e w6 h6
      rw [HQ.out] at h6
      obtain ⟨hb6, ja, jc, ns, ca, cc, rfl, hl6⟩ := h6
      have hm6 : ns.length ≤ 16 := by rw [hl6.len]; exact hlen
      obtain ⟨W7, hW7⟩ : ∃ W, W = w6.alloc (.cells (lcell x ja ns.length jc ca cc) 111) := ⟨_, rfl⟩
      have hb7 : Below w6.heap.size w6 W7 := by rw [hW7]; exact (Below.refl _ _).alloc (Nat.le_refl _) _
      have HB7 := Lib.hid (HB5.out.trans ((hb6.trans (hb7.mono hb6.size)).mono HB5.out.size))
      have HL7 := Lib.hid ((HL5.out.on hb6).on hb7)
      have HN7 := Lib.hid (hl6.on hb7)
      have HBS7 := Lib.hid ((HBS5.out.on hb6).on hb7)
      have hs6 : w.heap.size < w6.heap.size := Nat.lt_of_lt_of_le hs5 hb6.size
      have HR7 := Lib.hid ((hb7.block _ hs6).trans ((hb6.block _ hs5).trans HR5.out))
      have HRN7 := Lib.hid (show W7.heap[w6.heap.size]? = some (.cells (lcell x ja ns.length jc ca cc) 111 (0, 0)) by rw [hW7]; exact heap_alloc_new _ _)
      have hs7 : w6.heap.size < W7.heap.size := by rw [hW7]; simp
      have HW7 := Lib.hid hW7
      clear hb6 hb7 hl6 hW7
      obtain ⟨c0, c1, c2, c3, c4, c5, c6, c7⟩ := letCells HR7.out
      rw [HW7.out] at c0 c1 c2 c3 c4 c5 c6 c7
      go_wp2_with fail
      clear c0 c1 c2 c3 c4 c5 c6 c7
      rw [← HW7.out]
      refine (r15Put x ia ic ms ba bc HR.out _ HL7.out).mono ?_
      rintro e w8 ⟨qa, qc, rfl, hbs8, hb8⟩
      have HB8 := Lib.hid (HB7.out.trans (hb8.mono HB7.out.size))
      have HL8 := Lib.hid (HL7.out.on hb8)
      have HN8 := Lib.hid (HN7.out.on hb8)
      have HBP8 := Lib.hid (HBS7.out.on hb8)
      have HBS8 := Lib.hid hbs8
      have hs8 := hb8.size
      have HR8 := Lib.hid ((hb8.block _ (by omega)).trans HR7.out)
      have HRN8 := Lib.hid ((hb8.block _ hs7).trans HRN7.out)
      clear hb8 hbs8
      go_wp2_with fail
      refine (r1Bytes (putL x) (putL x) pa qa (putL x).length pc (putL x).length qc _ HBP8.out HBS8.out).mono ?_
      rintro e w9 ⟨rfl, hb9⟩
      rw [show decide (putL x = putL x) = true from by simp]
      have HB9 := Lib.hid (HB8.out.trans (hb9.mono HB8.out.size))
      have HL9 := Lib.hid (HL8.out.on hb9)
      have HN9 := Lib.hid (HN8.out.on hb9)
      have hr9 := (hb9.block _ (by omega)).trans HR8.out
      have hrn9 := (hb9.block _ (by omega)).trans HRN8.out
      clear hb9
      obtain ⟨c0, c1, c2, c3, c4, c5, c6, c7⟩ := letCells hr9
      obtain ⟨e0, e1, e2, e3, e4, e5, e6, e7⟩ := letCells hrn9
      clear hr9 hrn9
      go_wp2_with fail
      refine (r15Same x x ja ia jc ic ns ms ca ba cc bc (by omega) _ HN9.out HL9.out).mono ?_
      rintro e w10 ⟨rfl, hb10⟩
      rw [show sameL x x = true from (sameL_iff x x).2 rfl]
      have HB10 := Lib.hid (HB9.out.trans (hb10.mono HB9.out.size))
      clear hb10 c0 c1 c2 c3 c4 c5 c6 c7 e0 e1 e2 e3 e4 e5 e6 e7
      go_wp2_with fail
      refine (l15awake _).mono ?_
      rintro e w11 ⟨rfl, hb11⟩
      have HB11 := Lib.hid (HB10.out.trans (hb11.mono HB10.out.size))
      clear hb11
      go_wp2
      go_ret
      exact ⟨rfl, HB11.out⟩
end Go.Proofs.Ytogcnfhmcpkdcaa
