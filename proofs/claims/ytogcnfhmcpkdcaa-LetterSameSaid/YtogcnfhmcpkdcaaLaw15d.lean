/-
  The law LetterSame: the walk.
-/
import Derived.Test.YtogcnfhmcpkdcaaLaw15a
import Derived.Test.YtogcnfhmcpkdcaaLet3
import Derived.Test.YtogcnfhmcpkdcaaLet8
import Derived.Test.YtogcnfhmcpkdcaaOpenLet
namespace Go.Proofs.Ytogcnfhmcpkdcaa
open Go.RowKit
set_option linter.unusedVariables false
set_option linter.unusedSimpArgs false

theorem LetRdAt.on {w w' : World} {x : PLet} {ia : Option Addr} {ic : Nat} {ms : List MItem} {ba : Option Addr} {bc : Nat} (h : LetRdAt w w.heap.size x ia ic ms ba bc) (hb : Below w.heap.size w w') : LetRdAt w' w'.heap.size x ia ic ms ba bc :=
  ⟨(h.below hb (Nat.le_refl _)).sl.mono hb.size, fun m hm => ⟨(h.its m hm).ln, fun hn => (((h.below hb (Nat.le_refl _)).its m hm).bs hn).mono hb.size⟩, h.eq, fun hn => ((h.below hb (Nat.le_refl _)).b hn).mono hb.size⟩

/-- two letters lie in the boxes of the parameters -/
structure Two15 (w W : World) (x z : PLet) (ia ja : Option Addr) (ic jc : Nat) (ms ns : List MItem) (ba ca : Option Addr) (bc cc : Nat) : Prop where
  bel : Below w.heap.size w W
  sz : w.heap.size + 2 ≤ W.heap.size
  rx : W.heap[w.heap.size]? = some (.cells (lcell x ia ms.length ic ba bc) 111 (0, 0))
  rz : W.heap[w.heap.size + 1]? = some (.cells (lcell z ja ns.length jc ca cc) 111 (0, 0))
theorem Two15.on {w W W' : World} {x z : PLet} {ia ja : Option Addr} {ic jc : Nat} {ms ns : List MItem} {ba ca : Option Addr} {bc cc : Nat} (h : Two15 w W x z ia ja ic jc ms ns ba ca bc cc) (hb : Below W.heap.size W W') : Two15 w W' x z ia ja ic jc ms ns ba ca bc cc :=
  have hs := h.sz
  ⟨h.bel.trans (hb.mono (by omega)), Nat.le_trans hs hb.size, (hb.block _ (by omega)).trans h.rx, (hb.block _ (by omega)).trans h.rz⟩

set_option maxRecDepth 100000 in
set_option maxHeartbeats 4000000 in
theorem letterSame_calls (x z : PLet) (ia ja : Option Addr) (ic jc : Nat) (ms ns : List MItem) (ba ca : Option Addr) (bc cc : Nat) (w : World) (h : LetRdAt w w.heap.size x ia ic ms ba bc) (h' : LetRdAt w w.heap.size z ja jc ns ca cc) :
    Calls Try.prog 17 #[.agg (lcell x ia ms.length ic ba bc), .agg (lcell z ja ns.length jc ca cc)] w fun e w' => e = .returned (.bool true) ∧ Below w.heap.size w w' := by
  obtain ⟨W1, hW1⟩ : ∃ W1, W1 = (w.alloc (.cells (lcell x ia ms.length ic ba bc) 111)).alloc (.cells (lcell z ja ns.length jc ca cc) 111) := ⟨_, rfl⟩
  have HW1 := Lib.hid hW1
  have hb1 : Below w.heap.size w W1 := by rw [hW1]; exact ((Below.refl _ _).alloc (Nat.le_refl _) _).alloc (by simp) _
  have HT1 := Lib.hid (show Two15 w W1 x z ia ja ic jc ms ns ba ca bc cc from ⟨hb1, by rw [hW1]; simp, by
    rw [hW1]
    exact (((Below.refl _ _).alloc (Nat.le_refl (w.alloc (.cells (lcell x ia ms.length ic ba bc) 111)).heap.size) _).block _ (by simp)).trans (heap_alloc_new w _), by
    rw [hW1]
    have h9 := heap_alloc_new (w.alloc (.cells (lcell x ia ms.length ic ba bc) 111)) (.cells (lcell z ja ns.length jc ca cc) 111)
    simpa using h9⟩)
  have HX1 := Lib.hid (h.on hb1)
  have HZ1 := Lib.hid (h'.on hb1)
  clear h h' hW1 hb1
  obtain ⟨c0, c1, c2, c3, c4, c5, c6, c7⟩ := letCells HT1.out.rx
  rw [HW1.out] at c0 c1 c2 c3 c4 c5 c6 c7
  go_enter Try.func17, Try.ntmps17
  go_wp2_with fail
  rw [← HW1.out]
  clear c0 c1 c2 c3 c4 c5 c6 c7
  refine (r15Great x ia ic ms ba bc _ HX1.out.sl HX1.out.its).mono ?_
  rintro e w2 ⟨rfl, hb2⟩
  have HT2 := Lib.hid (HT1.out.on hb2)
  have HX2 := Lib.hid (HX1.out.on hb2)
  have HZ2 := Lib.hid (HZ1.out.on hb2)
  clear hb2
  cases hG : greatL ms x.b.length with
  | true =>
    clear hG
    go_wp2_with fail
    refine (l15awake _).mono ?_
    rintro e w3 ⟨rfl, hb3⟩
    have HB3 := Lib.hid (HT2.out.bel.trans (hb3.mono HT2.out.bel.size))
    clear hb3
    go_wp2
    go_ret
    exact ⟨rfl, HB3.out⟩
  | false =>
    obtain ⟨hg1, hg2, hg3⟩ := greatL_no hG
    have HL2 := Lib.hid (HX2.out.at hg3 hg2)
    clear hG hg3
    obtain ⟨c0, c1, c2, c3, c4, c5, c6, c7⟩ := letCells HT2.out.rx
    obtain ⟨e0, e1, e2, e3, e4, e5, e6, e7⟩ := letCells HT2.out.rz
    go_wp2_with fail
    clear c0 c1 c2 c3 c4 c5 c6 c7 e0 e1 e2 e3 e4 e5 e6 e7
    refine (r15Great z ja jc ns ca cc _ HZ2.out.sl HZ2.out.its).mono ?_
    rintro e w3 ⟨rfl, hb3⟩
    have HT3 := Lib.hid (HT2.out.on hb3)
    have HL3 := Lib.hid (HL2.out.on hb3)
    have HZ3 := Lib.hid (HZ2.out.on hb3)
    clear hb3
    cases hH : greatL ns z.b.length with
    | true =>
      clear hH
      go_wp2_with fail
      refine (l15awake _).mono ?_
      rintro e w4 ⟨rfl, hb4⟩
      have HB4 := Lib.hid (HT3.out.bel.trans (hb4.mono HT3.out.bel.size))
      clear hb4
      go_wp2
      go_ret
      exact ⟨rfl, HB4.out⟩
    | false =>
      obtain ⟨hh1, hh2, hh3⟩ := greatL_no hH
      have HM3 := Lib.hid (HZ3.out.at hh3 hh2)
      clear hH hh3
      obtain ⟨c0, c1, c2, c3, c4, c5, c6, c7⟩ := letCells HT3.out.rx
      obtain ⟨e0, e1, e2, e3, e4, e5, e6, e7⟩ := letCells HT3.out.rz
      go_wp2_with fail
      clear c0 c1 c2 c3 c4 c5 c6 c7 e0 e1 e2 e3 e4 e5 e6 e7
      refine (r15Same x z ia ja ic jc ms ns ba ca bc cc (by omega) _ HL3.out HM3.out).mono ?_
      rintro e w4 ⟨rfl, hb4⟩
      obtain ⟨S, hS⟩ : ∃ S, S = sameL x z := ⟨_, rfl⟩
      rw [← hS]
      have HS := Lib.hid hS
      have tS : (S == S) = true := by cases S <;> rfl
      have HT4 := Lib.hid (HT3.out.on hb4)
      have HL4 := Lib.hid (HL3.out.on hb4)
      have HM4 := Lib.hid (HM3.out.on hb4)
      clear hb4 hS
      obtain ⟨c0, c1, c2, c3, c4, c5, c6, c7⟩ := letCells HT4.out.rx
      obtain ⟨e0, e1, e2, e3, e4, e5, e6, e7⟩ := letCells HT4.out.rz
      go_wp2_with fail
      clear c0 c1 c2 c3 c4 c5 c6 c7 e0 e1 e2 e3 e4 e5 e6 e7
      refine (letterPut x ia ic ms ba bc (by omega) _ HL4.out).mono ?_
      rintro e w5 ⟨hc, hb5⟩
      have HT5 := Lib.hid (HT4.out.on hb5)
      have HL5 := Lib.hid (HL4.out.on hb5)
      have HM5 := Lib.hid (HM4.out.on hb5)
      clear hb5
      rcases hc with ⟨hR, rfl⟩ | ⟨hR, pa, pc, rfl, hbs5⟩
      · skip
        obtain ⟨c0, c1, c2, c3, c4, c5, c6, c7⟩ := letCells HT5.out.rx
        obtain ⟨e0, e1, e2, e3, e4, e5, e6, e7⟩ := letCells HT5.out.rz
        clear hR
        go_wp2_with fail
        clear c0 c1 c2 c3 c4 c5 c6 c7 e0 e1 e2 e3 e4 e5 e6 e7
        refine (letterPut z ja jc ns ca cc (by omega) _ HM5.out).mono ?_
        rintro e w6 ⟨hd, hb6⟩
        have HT6 := Lib.hid (HT5.out.on hb6)
        have HL6 := Lib.hid (HL5.out.on hb6)
        have HM6 := Lib.hid (HM5.out.on hb6)
        clear hb6
        rcases hd with ⟨hQ, rfl⟩ | ⟨hQ, qa, qc, rfl, hbq6⟩
        · skip
          clear hQ
          obtain ⟨c0, c1, c2, c3, c4, c5, c6, c7⟩ := letCells HT6.out.rx
          obtain ⟨e0, e1, e2, e3, e4, e5, e6, e7⟩ := letCells HT6.out.rz
          go_wp2_with fail
          clear c0 c1 c2 c3 c4 c5 c6 c7 e0 e1 e2 e3 e4 e5 e6 e7
          refine (letterSame x z ia ja ic jc ms ns ba ca bc cc (by omega) _ HL6.out HM6.out).mono ?_
          rintro e w7 ⟨rfl, hb7⟩
          rw [← HS.out]
          have HT7 := Lib.hid (HT6.out.on hb7)
          have HL7 := Lib.hid (HL6.out.on hb7)
          clear hb7
          obtain ⟨c0, c1, c2, c3, c4, c5, c6, c7⟩ := letCells HT7.out.rx
          obtain ⟨e0, e1, e2, e3, e4, e5, e6, e7⟩ := letCells HT7.out.rz
          go_wp2_with fail
          clear c0 c1 c2 c3 c4 c5 c6 c7 e0 e1 e2 e3 e4 e5 e6 e7
          refine (letterSame x x ia ia ic ic ms ms ba ba bc bc (by omega) _ HL7.out HL7.out).mono ?_
          rintro e w8 ⟨rfl, hb8⟩
          rw [show sameL x x = true from (sameL_iff x x).2 rfl]
          have HT8 := Lib.hid (HT7.out.on hb8)
          clear hb8
          go_wp2_with fail
          refine (l15awake _).mono ?_
          rintro e w9 ⟨rfl, hb9⟩
          have HB9 := Lib.hid (HT8.out.bel.trans (hb9.mono HT8.out.bel.size))
          clear hb9
          go_wp2
          go_ret
          exact ⟨rfl, HB9.out⟩
        · skip
          have HBQ6 := Lib.hid hbq6
          have HQ := Lib.hid hQ
          clear hbq6 hQ
          obtain ⟨c0, c1, c2, c3, c4, c5, c6, c7⟩ := letCells HT6.out.rx
          obtain ⟨e0, e1, e2, e3, e4, e5, e6, e7⟩ := letCells HT6.out.rz
          go_wp2_with fail
          clear c0 c1 c2 c3 c4 c5 c6 c7 e0 e1 e2 e3 e4 e5 e6 e7
          refine (letterSame x z ia ja ic jc ms ns ba ca bc cc (by omega) _ HL6.out HM6.out).mono ?_
          rintro e w7 ⟨rfl, hb7⟩
          rw [← HS.out]
          have HT7 := Lib.hid (HT6.out.on hb7)
          have HL7 := Lib.hid (HL6.out.on hb7)
          have HBQ7 := Lib.hid (HBQ6.out.on hb7)
          clear hb7
          obtain ⟨c0, c1, c2, c3, c4, c5, c6, c7⟩ := letCells HT7.out.rx
          obtain ⟨e0, e1, e2, e3, e4, e5, e6, e7⟩ := letCells HT7.out.rz
          go_wp2_with fail
          clear c0 c1 c2 c3 c4 c5 c6 c7 e0 e1 e2 e3 e4 e5 e6 e7
          refine (letterSame x x ia ia ic ic ms ms ba ba bc bc (by omega) _ HL7.out HL7.out).mono ?_
          rintro e w8 ⟨rfl, hb8⟩
          rw [show sameL x x = true from (sameL_iff x x).2 rfl]
          have HT8 := Lib.hid (HT7.out.on hb8)
          clear hb8
          go_wp2_with fail
          refine (l15awake _).mono ?_
          rintro e w9 ⟨rfl, hb9⟩
          have HB9 := Lib.hid (HT8.out.bel.trans (hb9.mono HT8.out.bel.size))
          clear hb9
          go_wp2
          go_ret
          exact ⟨rfl, HB9.out⟩
      · skip
        obtain ⟨c0, c1, c2, c3, c4, c5, c6, c7⟩ := letCells HT5.out.rx
        obtain ⟨e0, e1, e2, e3, e4, e5, e6, e7⟩ := letCells HT5.out.rz
        have HBS5 := Lib.hid hbs5
        have HR := Lib.hid hR
        clear hbs5 hR
        go_wp2_with fail
        clear c0 c1 c2 c3 c4 c5 c6 c7 e0 e1 e2 e3 e4 e5 e6 e7
        refine (letterPut z ja jc ns ca cc (by omega) _ HM5.out).mono ?_
        rintro e w6 ⟨hd, hb6⟩
        have HT6 := Lib.hid (HT5.out.on hb6)
        have HL6 := Lib.hid (HL5.out.on hb6)
        have HM6 := Lib.hid (HM5.out.on hb6)
        have HBS6 := Lib.hid (HBS5.out.on hb6)
        clear hb6
        rcases hd with ⟨hQ, rfl⟩ | ⟨hQ, qa, qc, rfl, hbq6⟩
        · skip
          clear hQ
          obtain ⟨c0, c1, c2, c3, c4, c5, c6, c7⟩ := letCells HT6.out.rx
          obtain ⟨e0, e1, e2, e3, e4, e5, e6, e7⟩ := letCells HT6.out.rz
          go_wp2_with fail
          clear c0 c1 c2 c3 c4 c5 c6 c7 e0 e1 e2 e3 e4 e5 e6 e7
          refine (letterSame x z ia ja ic jc ms ns ba ca bc cc (by omega) _ HL6.out HM6.out).mono ?_
          rintro e w7 ⟨rfl, hb7⟩
          rw [← HS.out]
          have HT7 := Lib.hid (HT6.out.on hb7)
          have HL7 := Lib.hid (HL6.out.on hb7)
          have HBS7 := Lib.hid (HBS6.out.on hb7)
          clear hb7
          obtain ⟨c0, c1, c2, c3, c4, c5, c6, c7⟩ := letCells HT7.out.rx
          obtain ⟨e0, e1, e2, e3, e4, e5, e6, e7⟩ := letCells HT7.out.rz
          go_wp2_with fail
          clear c0 c1 c2 c3 c4 c5 c6 c7 e0 e1 e2 e3 e4 e5 e6 e7
          refine (letterSame x x ia ia ic ic ms ms ba ba bc bc (by omega) _ HL7.out HL7.out).mono ?_
          rintro e w8 ⟨rfl, hb8⟩
          rw [show sameL x x = true from (sameL_iff x x).2 rfl]
          have HT8 := Lib.hid (HT7.out.on hb8)
          clear hb8
          go_wp2_with fail
          refine (l15awake _).mono ?_
          rintro e w9 ⟨rfl, hb9⟩
          have HB9 := Lib.hid (HT8.out.bel.trans (hb9.mono HT8.out.bel.size))
          clear hb9
          go_wp2
          go_ret
          exact ⟨rfl, HB9.out⟩
        · skip
          have HBQ6 := Lib.hid hbq6
          have HQ := Lib.hid hQ
          clear hbq6 hQ
          obtain ⟨c0, c1, c2, c3, c4, c5, c6, c7⟩ := letCells HT6.out.rx
          obtain ⟨e0, e1, e2, e3, e4, e5, e6, e7⟩ := letCells HT6.out.rz
          go_wp2_with fail
          clear c0 c1 c2 c3 c4 c5 c6 c7 e0 e1 e2 e3 e4 e5 e6 e7
          refine (letterSame x z ia ja ic jc ms ns ba ca bc cc (by omega) _ HL6.out HM6.out).mono ?_
          rintro e w7 ⟨rfl, hb7⟩
          rw [← HS.out]
          have HT7 := Lib.hid (HT6.out.on hb7)
          have HL7 := Lib.hid (HL6.out.on hb7)
          have HBS7 := Lib.hid (HBS6.out.on hb7)
          have HBQ7 := Lib.hid (HBQ6.out.on hb7)
          clear hb7
          obtain ⟨c0, c1, c2, c3, c4, c5, c6, c7⟩ := letCells HT7.out.rx
          obtain ⟨e0, e1, e2, e3, e4, e5, e6, e7⟩ := letCells HT7.out.rz
          go_wp2_with fail
          clear c0 c1 c2 c3 c4 c5 c6 c7 e0 e1 e2 e3 e4 e5 e6 e7
          refine (letterSame x x ia ia ic ic ms ms ba ba bc bc (by omega) _ HL7.out HL7.out).mono ?_
          rintro e w8 ⟨rfl, hb8⟩
          rw [show sameL x x = true from (sameL_iff x x).2 rfl]
          have HT8 := Lib.hid (HT7.out.on hb8)
          have HBS8 := Lib.hid (HBS7.out.on hb8)
          have HBQ8 := Lib.hid (HBQ7.out.on hb8)
          clear hb8
          go_wp2_with fail
          refine (r1Bytes (putL x) (putL z) pa qa (putL x).length pc (putL z).length qc _ HBS8.out HBQ8.out).mono ?_
          rintro e w9 ⟨rfl, hb9⟩
          have hdec : decide (putL x = putL z) = S := by
            rw [HS.out, Bool.eq_iff_iff, decide_eq_true_eq, sameL_iff]
            exact ⟨fun h9 => putL_inj HR.out HQ.out h9, fun h9 => by rw [h9]⟩
          rw [hdec]
          have HT9 := Lib.hid (HT8.out.on hb9)
          clear hb9 hdec
          go_wp2_with fail
          refine (l15awake _).mono ?_
          rintro e w10 ⟨rfl, hb10⟩
          have HB10 := Lib.hid (HT9.out.bel.trans (hb10.mono HT9.out.bel.size))
          clear hb10
          go_wp2
          go_ret
          exact ⟨rfl, HB10.out⟩
end Go.Proofs.Ytogcnfhmcpkdcaa
