/-
  Contract of sent.
  Contract of given.
  Contract of Handle.
-/
import Derived.Test.YtogcnfhmcpkdcaaGreatRaftNA
import Derived.Test.YtogcnfhmcpkdcaaGreatRaftM6
import Derived.Test.YtogcnfhmcpkdcaaGreatLine5
namespace Go.Proofs.YtogcnfhmcpkdcaaGreat
open Go.RowKit
set_option linter.unusedVariables false
set_option linter.unusedSimpArgs false

section
/-- another line is laid in place of the line -/
theorem RfAt.relined {w w3 : World} {p : Nat} {R : PRaft} {M : RMem} (h : RfAt w p R M) (hb3 : Below w.heap.size w w3) {base lp lc : Nat} {la : Option Addr} {ms : List MItem} {x : PLine} (hln : LnAt w3 base lp x la lc ms) (hb : w.heap.size ≤ base) :
    RfAt (w3.setCell ⟨p, 4, none⟩ (.pointer (some ⟨lp, 0, none⟩))) p { R with line := x } { M with lb := lp, la := la, lc := lc, ms := ms } ∧ RTouch p M { M with lb := lp, la := la, lc := lc, ms := ms } w (w3.setCell ⟨p, 4, none⟩ (.pointer (some ⟨lp, 0, none⟩))) :=
  h.headed (R1 := R) (M1 := M) (Spoiled.ofBelow hb3) (h.below hb3).row h.sv rfl rfl rfl (h.below hb3).st hln hb

/-- what the drawn regions of sent read -/
structure SntS (p g : Nat) (lb : Nat) (x : PLet) (W : World) : Prop where
  l2 : W.cell? ⟨g, 2, none⟩ = some (.int .i64 x.a)
  l4 : W.cell? ⟨g, 4, none⟩ = some (.int .i64 x.o)
theorem SntS.of {p g lb : Nat} {x : PLet} {ia : Option Addr} {n ic : Nat} {ba : Option Addr} {bc : Nat} {w : World} (hb : w.heap[g]? = some (.cells (lcell x ia n ic ba bc) 32 (0, 0))) : SntS p g lb x w :=
  let ⟨_, _, l2, _, l4, _⟩ := letCells hb
  ⟨l2, l4⟩

set_option maxRecDepth 100000 in
set_option maxHeartbeats 2000000 in
theorem raftSent (p : Nat) (R : PRaft) (M : RMem) (f : Int) (x : PLet) (ia : Option Addr) (ic : Nat) (ms : List MItem) (ba : Option Addr) (bc : Nat) (hok : R.Ok) (hr : rightL x = true) (hnw : R.news.length ≤ 999990000) (ho : R.out.length ≤ 999999000) (w : World) (h : RfAt w p R M) (hx : LetFar w p M x ia ic ms ba bc) :
    Calls Tryz.prog 47 #[.pointer (some ⟨p, 0, none⟩), .int .i64 f, .agg (lcell x ia ms.length ic ba bc)] w fun e w' => e = .returned (.tuple #[]) ∧ ∃ M', RfAt w' p (R.sent f x) M' ∧ RTouch p M M' w w' := by
  obtain ⟨-, -, ⟨ha0, ha1⟩, -, ⟨ho0, ho1⟩, hi16, -, hits, -⟩ := right_places hr
  have hlen := hx.la.len
  obtain ⟨V, hV, hbV, hsV, hrV⟩ := letBox w x ia ms.length ic ba bc
  have hrf := h.below hbV
  have HR := Lib.hid hrf
  have HB := Lib.hid hbV
  have HV := Lib.hid hV
  have HBX := Lib.hid hrV
  have HNW := Lib.hid (h.notNew (Nat.le_refl w.heap.size))
  have HX := Lib.hid (hx.below hbV)
  have HOK := Lib.hid hok
  have HLEN := Lib.hid hlen
  have HITS := Lib.hid hits
  obtain ⟨S, b, hF⟩ : ∃ S b, R.follows f x = (S, b) := ⟨_, _, rfl⟩
  have HF := Lib.hid hF
  have HOKS := Lib.hid (show S.Ok by have h9 := ok_follows hok f x; rw [hF] at h9; exact h9)
  have HGS := Lib.hid (show S.news.length ≤ 999990000 ∧ S.out.length ≤ 999999001 by
    have h9 : Grows 0 1 0 R S := by
      have h8 := grows_follows R f x
      rw [hF] at h8
      exact h8
    exact ⟨by have := h9.1; omega, by have := h9.2.1; omega⟩)
  obtain ⟨l0, l1, l2, l3, l4, l5, l6, l7⟩ := letCells hrV
  rw [hV] at l0 l1 l2 l3 l4 l5 l6 l7
  clear hrf hbV hV hrV h hok hx hlen hits hF
  go_enter Tryz.func47, Tryz.ntmps47
  go_wp2_with fail
  rw [← HV.out]
  clear l0 l1 l2 l3 l4 l5 l6 l7
  refine (raftFollows p R M f x ia ms.length ic ba bc (by omega) _ HR.out).mono ?_
  rintro e w1 ⟨rfl, M1, hr1, ht1⟩
  rw [HF.out] at hr1 ⊢
  have HR1 := Lib.hid (show RfAt w1 p S M1 from hr1)
  have HT1 := Lib.hid ((RTouch.ofBelow HB.out).trans ht1)
  have HBX1 := Lib.hid ((ht1.block w.heap.size (by omega) HNW.out).trans HBX.out)
  have HX1 := Lib.hid (HX.out.touch ht1)
  have hs1 := ht1.size
  have HNW1 := Lib.hid (show ¬ M1.own p w.heap.size from fun h9 => by
    rcases ht1.fresh _ h9 with h8 | h8
    · exact HNW.out h8
    · omega)
  clear hr1 ht1
  cases b with
  | false =>
    have HFIN := Lib.hid (show R.sent f x = S by unfold PRaft.sent; rw [HF.out]; rfl)
    go_wp2
    refine bodyPost_ret (results_none rfl _ _ _) rfl ?_
    exact ⟨rfl, M1, by rw [HFIN.out]; exact HR1.out, HT1.out⟩
  | true =>
    have HFIN := Lib.hid (show R.sent f x = S.sent1 f x by unfold PRaft.sent; rw [HF.out]; rfl)
    have c4 : w1.cell? ⟨p, 4, none⟩ = some (.pointer (some ⟨M1.lb, 0, none⟩)) := HR1.out.c rfl
    go_wp2_with fail
    refine (lineCopy 0 M1.lb S.line HOKS.out.line M1.la M1.lc M1.ms _ HR1.out.ln).mono ?_
    rintro e w2 ⟨q, qa, qc, rfl, hln2, hb2, hq2⟩
    have HLN2 := Lib.hid hln2
    have HB2 := Lib.hid hb2
    have HBX2 := Lib.hid ((hb2.block w.heap.size (by omega)).trans HBX1.out)
    have HX2 := Lib.hid (HX1.out.below hb2)
    have hs2 := hb2.size
    have hlq := hln2.lt
    obtain ⟨-, -, l2, l3, -, -, l6, -⟩ := letCells HBX2.out
    clear c4 hln2 hb2
    go_wp2_with fail
    refine (lineJoin w1.heap.size q S.line HOKS.out.line qa qc M1.ms x.a x.u ms ia ic _ HLN2.out HX2.out.la.its (by have := HLEN.out; omega) (fun hp ad e9 => by
      obtain ⟨b9, o9, e8, hl9, -⟩ := HX1.out.la.its.sl.hat (by rw [HX1.out.la.its.sl.hlen]; omega)
      rw [e9] at e8; injection e8 with e8; subst e8
      show b9 ≠ q; omega) hs2).mono ?_
    rintro e w3 ⟨rfl, hj3⟩
    rw [show ms.map MItem.it = x.its from HX2.out.la.eq] at hj3 ⊢
    obtain ⟨ja, jc, js, hln3, ht3, -⟩ := hj3
    have hb3 : Below w1.heap.size w1 w3 := HB2.out.trans ⟨ht3.os, ht3.tape, ht3.output, ht3.size, fun k hk => ht3.block k (by omega) (by omega) (fun e9 => by
      have h9 := (own_lt HLN2.out.own e9.symm).1
      omega)⟩
    have HLN3 := Lib.hid hln3
    have HB3 := Lib.hid hb3
    have HR3 := Lib.hid (HR1.out.below hb3)
    have HT3 := Lib.hid (HT1.out.trans (.ofBelow hb3))
    have HBX3 := Lib.hid ((hb3.block w.heap.size (by omega)).trans HBX1.out)
    have HJS := Lib.hid (join_spec HOKS.out.line x.a x.u x.its)
    obtain ⟨E, hE⟩ : ∃ E, S.line.join x.a x.u x.its = E := ⟨_, rfl⟩
    rw [hE] at HLN3 HJS ⊢
    have HE := Lib.hid hE
    clear hln3 ht3 hb3 hE l2 l3 l6
    have c4 : w3.cell? ⟨p, 4, none⟩ = some (.pointer (some ⟨M1.lb, 0, none⟩)) := HR3.out.c rfl
    have c8 : w3.cell? ⟨p, 8, none⟩ = some (.int .i64 S.commit) := HR3.out.c rfl
    have hs3 := HB3.out.size
    obtain ⟨L, hL⟩ : ∃ L, S.line.last = L := ⟨_, rfl⟩
    have hLb := last_bounds HOKS.out.line
    rw [hL] at hLb
    have HL := Lib.hid hL
    clear hL
    rcases HJS.out with e | ⟨e, hp0, hp1, hlast, -⟩ | ⟨j, k, e, hp0, hp1, hj, hk, hbj, hjl, -, -, -, -, hlast⟩
    · subst e
      have w0 : IntKind.i64.wrap (x.a - 1) = x.a - 1 := IntWalk.i64_in _ (by omega)
      have HFF := Lib.hid (show R.sent f x = S.post f ⟨4, 0, max 0 (min L (x.a - 1)), 0, x.a, false, [], []⟩ by
        rw [HFIN.out]
        unfold PRaft.sent1
        simp only [HE.out, HL.out]
        rw [if_neg (by simp)]; simp only [if_true])
      go_wp2_with fail
      refine wp_region_any (by kernel_rfl) ?_
      refine wpAny_of_held (S := SntS p w.heap.size M1.lb x) _ _ _ _ ?_
      obtain ⟨w4, hw4⟩ : ∃ w4, w4 = w3.drew := ⟨_, rfl⟩
      have hdr : Below w3.heap.size w3 w4 := by rw [hw4]; exact (Below.refl _ _).drew
      (refine (show wpAnyH _ _ _ _ _ _ _ _ w3.drew from ?_))
      rw [← hw4]
      clear hw4
      have HR4 := Lib.hid (HR3.out.below hdr)
      have HBX4 := Lib.hid ((hdr.block w.heap.size (by omega)).trans HBX3.out)
      have hs4 := hdr.size
      have hS4 : SntS p w.heap.size M1.lb x w4 := SntS.of HBX4.out
      refine heldTake 0 48 rfl rfl (by kernel_rfl) (by kernel_rfl) (by kernel_rfl) (fun _ _ _ h => h) hS4 (.inl ⟨by rfl, by intro w' hS; obtain ⟨s1, s2⟩ := hS; go_simp; (try rfl)⟩) ?_
      simp only [List.set_cons_zero, List.set_cons_succ]
      refine heldTake 1 49 rfl rfl (by kernel_rfl) (by kernel_rfl) (by kernel_rfl) (fun _ _ _ h => h) hS4 (.inl ⟨by rfl, by intro w' hS; obtain ⟨s1, s2⟩ := hS; go_simp; (try rfl)⟩) ?_
      simp only [List.set_cons_zero, List.set_cons_succ]
      refine heldTake 2 50 rfl rfl (by kernel_rfl) (by kernel_rfl) (by kernel_rfl) (fun _ _ _ h => h) hS4 (.inl ⟨by rfl, by intro w' hS; obtain ⟨s1, s2⟩ := hS; go_simp; (try rfl)⟩) ?_
      simp only [List.set_cons_zero, List.set_cons_succ]
      refine heldTake 4 52 rfl rfl (by kernel_rfl) (by kernel_rfl) (by kernel_rfl) (fun _ _ _ h => h) hS4 (.inl ⟨by rfl, by intro w' hS; obtain ⟨s1, s2⟩ := hS; go_simp; (try rfl)⟩) ?_
      simp only [List.set_cons_zero, List.set_cons_succ]
      refine heldTake 9 57 rfl rfl (by kernel_rfl) (by kernel_rfl) (by kernel_rfl) (fun _ _ _ h => h) hS4 (.inl ⟨by rfl, by intro w' hS; obtain ⟨s1, s2⟩ := hS; go_simp; (try rfl)⟩) ?_
      simp only [List.set_cons_zero, List.set_cons_succ]
      refine heldTake 5 53 rfl rfl (by kernel_rfl) (by kernel_rfl) (by kernel_rfl) (fun _ _ _ h => h) hS4 (.inl ⟨by rfl, by intro w' hS; obtain ⟨s1, s2⟩ := hS; go_simp; (try rfl)⟩) ?_
      simp only [List.set_cons_zero, List.set_cons_succ]
      refine heldTake 10 58 rfl rfl (by kernel_rfl) (by kernel_rfl) (by kernel_rfl) (fun _ _ _ h => h) hS4 (.inl ⟨by rfl, by intro w' hS; obtain ⟨s1, s2⟩ := hS; go_simp; (try rfl)⟩) ?_
      simp only [List.set_cons_zero, List.set_cons_succ]
      refine heldTake 6 54 (v := .int .i64 (x.a - 1)) rfl rfl (by kernel_rfl) (by kernel_rfl) (by kernel_rfl) (fun _ _ _ h => h) hS4 (.inl ⟨by rfl, by intro w' hS; obtain ⟨s1, s2⟩ := hS; go_simp; (try (all_goals rfl))⟩) ?_
      simp only [List.set_cons_zero, List.set_cons_succ]
      clear hS4
      refine heldOne 3 (by kernel_rfl) rfl (by rfl) ?_
      go_simp
      refine (raftLast HOKS.out.line HR4.out).mono ?_
      rintro e w5 ⟨rfl, m5, hm5⟩
      rw [HL.out]
      have HR5 := Lib.hid (HR4.out.drawn hm5)
      have HB5 := Lib.hid (show Below w4.heap.size w4 w5 by rw [hm5]; exact below_drewN w4 m5)
      have HBX5 := Lib.hid ((HB5.out.block w.heap.size (by omega)).trans HBX4.out)
      have hS5 : SntS p w.heap.size M1.lb x w5 := SntS.of HBX5.out
      have HS5 := Lib.hid hS5
      have HT5 := Lib.hid (HT3.out.trans ((RTouch.ofBelow hdr).trans (.ofBelow HB5.out)))
      clear hS5 hm5 hdr c4 c8
      refine ⟨HS5.out, ?_⟩
      refine heldOne 7 (by kernel_rfl) rfl (by rfl) ?_
      go_simp
      refine ⟨HS5.out, ?_⟩
      refine heldOne 8 (by kernel_rfl) rfl (by rfl) ?_
      go_simp
      refine ⟨HS5.out, ?_⟩
      have hS5 := HS5.out
      refine heldTake 11 59 (v := .agg (lcell ⟨4, 0, max 0 (min L (x.a - 1)), 0, x.a, false, [], []⟩ none 0 0 none 0)) rfl rfl (by kernel_rfl) (by kernel_rfl) (by kernel_rfl) (fun _ _ _ h => h) hS5 (.inl ⟨by rfl, by intro w' hS; clear hS; go_simp; (try (all_goals rfl))⟩) ?_
      simp only [List.set_cons_zero, List.set_cons_succ]
      clear hS5
      refine heldOne 12 (by kernel_rfl) rfl (by rfl) ?_
      go_simp
      refine (raftPost0 p S M1 f ⟨4, 0, max 0 (min L (x.a - 1)), 0, x.a, false, [], []⟩ rfl rfl (by have := HGS.out.2; omega) _ HR5.out).mono ?_
      rintro e w6 ⟨rfl, M6, hr6, ht6⟩
      have HR6 := Lib.hid hr6
      have HT6 := Lib.hid (HT5.out.trans ht6)
      have HBX6 := Lib.hid ((ht6.block w.heap.size (by have := HB5.out.size; omega) HNW1.out).trans HBX5.out)
      refine ⟨SntS.of HBX6.out, wpAnyH_done (by kernel_rfl) ?_ _⟩
      clear hr6 ht6
      go_wp2
      refine bodyPost_ret (results_none rfl _ _ _) rfl ?_
      exact ⟨rfl, M6, by rw [HFF.out]; exact HR6.out, HT6.out⟩
    · subst e
      obtain ⟨U, hU⟩ : ∃ U : Int, x.a + (ms.length : Int) = U := ⟨_, rfl⟩
      have HU := Lib.hid (show IntKind.i64.wrap (x.a + (ms.length : Int)) = U by rw [← hU]; exact IntWalk.i64_in _ (by have := HLEN.out; omega))
      have HFF := Lib.hid (show R.sent f x = ({ S with commit := max S.commit (min x.o U) } : PRaft).post f ⟨4, 0, U, 0, x.a, true, [], []⟩ by
        rw [HFIN.out]
        unfold PRaft.sent1
        simp only [HE.out]
        rw [if_neg (by simp), if_neg (by simp), if_neg (by simp), ← hU, HLEN.out])
      have hltW : w.heap.size < w3.heap.size := by omega
      clear hU
      clear c4 c8
      have l2 := (letCells HBX3.out).2.2.1
      have l6 := (letCells HBX3.out).2.2.2.2.2.2.1
      have w9 := HU.out
      go_wp2_with fail
      clear l2 l6 w9
      refine wp_region_any (by kernel_rfl) ?_
      refine wpAny_of_held (S := SntS p w.heap.size M1.lb x) _ _ _ _ ?_
      obtain ⟨w20, hw20⟩ : ∃ w20, w20 = w3.drew := ⟨_, rfl⟩
      have hdr : Below w3.heap.size w3 w20 := by rw [hw20]; exact (Below.refl _ _).drew
      (refine (show wpAnyH _ _ _ _ _ _ _ _ w3.drew from ?_))
      rw [← hw20]
      clear hw20
      have HR20 := Lib.hid (HR3.out.below hdr)
      have HBX20 := Lib.hid ((hdr.block w.heap.size hltW).trans HBX3.out)
      have hs20 := hdr.size
      have hS20 : SntS p w.heap.size M1.lb x w20 := SntS.of HBX20.out
      refine heldTake 0 77 rfl rfl (by kernel_rfl) (by kernel_rfl) (by kernel_rfl) (fun _ _ _ h => h) hS20 (.inl ⟨by rfl, by intro w' hS; obtain ⟨s1, s2⟩ := hS; go_simp; (try rfl)⟩) ?_
      simp only [List.set_cons_zero, List.set_cons_succ]
      refine heldTake 1 78 rfl rfl (by kernel_rfl) (by kernel_rfl) (by kernel_rfl) (fun _ _ _ h => h) hS20 (.inl ⟨by rfl, by intro w' hS; obtain ⟨s1, s2⟩ := hS; go_simp; (try rfl)⟩) ?_
      simp only [List.set_cons_zero, List.set_cons_succ]
      refine heldTake 5 82 rfl rfl (by kernel_rfl) (by kernel_rfl) (by kernel_rfl) (fun _ _ _ h => h) hS20 (.inl ⟨by rfl, by intro w' hS; obtain ⟨s1, s2⟩ := hS; go_simp; (try rfl)⟩) ?_
      simp only [List.set_cons_zero, List.set_cons_succ]
      refine heldTake 7 84 rfl rfl (by kernel_rfl) (by kernel_rfl) (by kernel_rfl) (fun _ _ _ h => h) hS20 (.inl ⟨by rfl, by intro w' hS; obtain ⟨s1, s2⟩ := hS; go_simp; (try rfl)⟩) ?_
      simp only [List.set_cons_zero, List.set_cons_succ]
      refine heldTake 2 79 rfl rfl (by kernel_rfl) (by kernel_rfl) (by kernel_rfl) (fun _ _ _ h => h) hS20 (.inl ⟨by rfl, by intro w' hS; obtain ⟨s1, s2⟩ := hS; go_simp; (try rfl)⟩) ?_
      simp only [List.set_cons_zero, List.set_cons_succ]
      refine heldTake 6 83 rfl rfl (by kernel_rfl) (by kernel_rfl) (by kernel_rfl) (fun _ _ _ h => h) hS20 (.inl ⟨by rfl, by intro w' hS; obtain ⟨s1, s2⟩ := hS; go_simp; (try rfl)⟩) ?_
      simp only [List.set_cons_zero, List.set_cons_succ]
      refine heldTake 3 80 rfl rfl (by kernel_rfl) (by kernel_rfl) (by kernel_rfl) (fun _ _ _ h => h) hS20 (.inl ⟨by rfl, by intro w' hS; obtain ⟨s1, s2⟩ := hS; go_simp; (try rfl)⟩) ?_
      simp only [List.set_cons_zero, List.set_cons_succ]
      refine heldTake 8 85 (v := .int .i64 (min x.o U)) rfl rfl (by kernel_rfl) (by kernel_rfl) (by kernel_rfl) (fun _ _ _ h => h) hS20 (.inl ⟨by rfl, by intro w' hS; clear hS; go_simp; (try (all_goals rfl))⟩) ?_
      simp only [List.set_cons_zero, List.set_cons_succ]
      have p2 : w20.cell? ⟨p, 8, none⟩ = some (.int .i64 S.commit) := by exact HR20.out.c rfl
      have f2 := HR20.out.f 8
      have HS20 := Lib.hid hS20
      clear hS20
      refine heldOne 4 (by kernel_rfl) rfl (by rfl) ?_
      go_simp
      refine ⟨HS20.out, ?_⟩
      refine heldOne 9 (by kernel_rfl) rfl (by rfl) ?_
      go_simp
      refine ⟨HS20.out, ?_⟩
      have hS20 := HS20.out
      refine heldTake 10 87 rfl rfl (by kernel_rfl) (by kernel_rfl) (by kernel_rfl) (fun _ _ _ h => h) hS20 (.inl ⟨by rfl, by intro w' hS; obtain ⟨s1, s2⟩ := hS; go_simp; (try rfl)⟩) ?_
      simp only [List.set_cons_zero, List.set_cons_succ]
      refine heldTake 11 88 rfl rfl (by kernel_rfl) (by kernel_rfl) (by kernel_rfl) (fun _ _ _ h => h) hS20 (.inl ⟨by rfl, by intro w' hS; obtain ⟨s1, s2⟩ := hS; go_simp; (try rfl)⟩) ?_
      simp only [List.set_cons_zero, List.set_cons_succ]
      clear hS20
      refine heldOne 12 (by kernel_rfl) rfl (by rfl) ?_
      refine wp_store_cell 3 (.tmp 88) (.tmp 86) rfl p 8 (iz (max S.commit (min x.o U))) _ rfl rfl rfl (by kernel_rfl) p2 f2 ?_
      obtain ⟨w21, hw21⟩ : ∃ w21, w21 = w20.setCell ⟨p, 8, none⟩ (iz (max S.commit (min x.o U))) := ⟨_, rfl⟩
      obtain ⟨a21, b21⟩ := HR20.out.setCommit (max S.commit (min x.o U))
      rw [← hw21] at a21 b21 ⊢
      have HR21 := Lib.hid a21
      have HT21 := Lib.hid ((HT3.out.trans (.ofBelow hdr)).trans b21)
      have HBX21 := Lib.hid ((b21.block w.heap.size (by omega) HNW1.out).trans HBX20.out)
      clear hw21 a21 b21 p2 f2 hdr
      refine ⟨SntS.of HBX21.out, wpAnyH_done (by kernel_rfl) ?_ _⟩
      have l2 := (letCells HBX21.out).2.2.1
      go_wp2_with fail
      clear l2
      refine (raftPost0 p { S with commit := max S.commit (min x.o U) } M1 f ⟨4, 0, U, 0, x.a, true, [], []⟩ rfl rfl (by show (S).out.length ≤ _; have := HGS.out.2; omega) _ HR21.out).mono ?_
      rintro e w22 ⟨rfl, M22, hr22, ht22⟩
      have HR22 := Lib.hid hr22
      have HT22 := Lib.hid (HT21.out.trans ht22)
      clear hr22 ht22
      go_wp2
      go_end0
      exact ⟨rfl, M22, by rw [HFF.out]; exact HR22.out, HT22.out⟩
    · subst e
      have hB0 := HOKS.out.line.b0
      have hgj := HOKS.out.line.join x.a x.u x.its
      rw [HE.out] at hgj
      have hjM : j ≤ 1099511627776 := by have h9 := (last_bounds hgj).2; simp only at h9; omega
      clear hgj hj hlast
      by_cases hjc : j ≤ S.commit
      · have t0 : decide (0 < j) = true := decide_eq_true (by omega)
        have t1 : decide (j ≤ S.commit) = true := decide_eq_true hjc
        have HFF := Lib.hid (show R.sent f x = S by
          rw [HFIN.out]
          unfold PRaft.sent1
          simp only [HE.out]
          rw [if_pos ⟨trivial, by omega, hjc⟩])
        clear hjc
        go_wp2
        refine bodyPost_ret (results_none rfl _ _ _) rfl ?_
        exact ⟨rfl, M1, by rw [HFF.out]; exact HR3.out, HT3.out⟩
      have t0 : decide (0 < j) = true := decide_eq_true (by omega)
      have t1 : decide (j ≤ S.commit) = false := decide_eq_false hjc
      obtain ⟨X, hX⟩ : ∃ X : PLine, X = { S.line with l := S.line.l.take (j - S.line.base - 1).toNat ++ x.its.drop k } := ⟨_, rfl⟩
      rw [← hX] at HLN3 HE
      have HGX := Lib.hid (show X.Good by have h9 := HOKS.out.line.join x.a x.u x.its; rw [HE.out] at h9; exact h9)
      obtain ⟨U, hU⟩ : ∃ U : Int, x.a + (ms.length : Int) = U := ⟨_, rfl⟩
      have HU := Lib.hid (show IntKind.i64.wrap (x.a + (ms.length : Int)) = U by rw [← hU]; exact IntWalk.i64_in _ (by have := HLEN.out; omega))
      obtain ⟨R4, hR4⟩ : ∃ R4 : PRaft, R4 = { S with line := X } := ⟨_, rfl⟩
      have HFF := Lib.hid (show R.sent f x = ({ R4.noteItems j with commit := max S.commit (min x.o U) } : PRaft).post f ⟨4, 0, U, 0, x.a, true, [], []⟩ by
        rw [HFIN.out, hR4]
        unfold PRaft.sent1
        simp only [HE.out]
        rw [if_neg (fun h9 => hjc h9.2.2), if_neg (by simp), if_pos (by omega), ← hU, HLEN.out]
        rfl)
      have HCM := Lib.hid (show (R4.noteItems j).commit = S.commit by rw [hR4]; rfl)
      have HOU := Lib.hid (show (R4.noteItems j).out = S.out by rw [hR4]; rfl)
      have HR4D := Lib.hid (show R4.line = X ∧ R4.news = S.news by rw [hR4]; exact ⟨rfl, rfl⟩)
      have f4 := HR3.out.f 4
      obtain ⟨a5, b5⟩ := HR1.out.relined HB3.out HLN3.out (Nat.le_refl _)
      obtain ⟨w5, hw5⟩ : ∃ w5, w5 = w3.setCell ⟨p, 4, none⟩ (.pointer (some ⟨q, 0, none⟩)) := ⟨_, rfl⟩
      rw [← hw5] at a5 b5
      rw [← hR4] at a5
      obtain ⟨M5, hM5⟩ : ∃ M5 : RMem, M5 = { M1 with lb := q, la := ja, lc := jc, ms := js } := ⟨_, rfl⟩
      rw [← hM5] at a5 b5
      have HR5 := Lib.hid a5
      have HT5 := Lib.hid (HT1.out.trans b5)
      have HBX5 := Lib.hid ((b5.block w.heap.size (by omega) HNW1.out).trans HBX1.out)
      have HNW5 := Lib.hid (show ¬ M5.own p w.heap.size from fun h9 => by
        rcases b5.fresh _ h9 with h8 | h8
        · exact HNW1.out h8
        · omega)
      have HW5 := Lib.hid hw5
      have hs5 := b5.size
      clear hw5 a5 b5 hM5 hR4 hX hU hjc
      go_wp2_with fail
      rw [← HW5.out]
      clear c4 c8 f4
      refine (raftNoteItems p R4 M5 j (by omega) hjM (by rw [HR4D.out.1]; exact HGX.out) (by rw [HR4D.out.2]; have := HGS.out.1; omega) _ HR5.out).mono ?_
      rintro e w6 ⟨rfl, M6, hr6, ht6⟩
      have HR6 := Lib.hid hr6
      have HT6 := Lib.hid (HT5.out.trans ht6)
      have HBX6 := Lib.hid ((ht6.block w.heap.size (by omega) HNW5.out).trans HBX5.out)
      have HNW6 := Lib.hid (show ¬ M6.own p w.heap.size from fun h9 => by
        rcases ht6.fresh _ h9 with h8 | h8
        · exact HNW5.out h8
        · omega)
      have hs6 := ht6.size
      have hltW : w.heap.size < w6.heap.size := by omega
      clear hr6 ht6
      have l2 := (letCells HBX6.out).2.2.1
      have l6 := (letCells HBX6.out).2.2.2.2.2.2.1
      have w9 := HU.out
      go_wp2_with fail
      clear l2 l6 w9
      refine wp_region_any (by kernel_rfl) ?_
      refine wpAny_of_held (S := SntS p w.heap.size M1.lb x) _ _ _ _ ?_
      obtain ⟨w20, hw20⟩ : ∃ w20, w20 = w6.drew := ⟨_, rfl⟩
      have hdr : Below w6.heap.size w6 w20 := by rw [hw20]; exact (Below.refl _ _).drew
      (refine (show wpAnyH _ _ _ _ _ _ _ _ w6.drew from ?_))
      rw [← hw20]
      clear hw20
      have HR20 := Lib.hid (HR6.out.below hdr)
      have HBX20 := Lib.hid ((hdr.block w.heap.size hltW).trans HBX6.out)
      have hs20 := hdr.size
      have hS20 : SntS p w.heap.size M1.lb x w20 := SntS.of HBX20.out
      refine heldTake 0 77 rfl rfl (by kernel_rfl) (by kernel_rfl) (by kernel_rfl) (fun _ _ _ h => h) hS20 (.inl ⟨by rfl, by intro w' hS; obtain ⟨s1, s2⟩ := hS; go_simp; (try rfl)⟩) ?_
      simp only [List.set_cons_zero, List.set_cons_succ]
      refine heldTake 1 78 rfl rfl (by kernel_rfl) (by kernel_rfl) (by kernel_rfl) (fun _ _ _ h => h) hS20 (.inl ⟨by rfl, by intro w' hS; obtain ⟨s1, s2⟩ := hS; go_simp; (try rfl)⟩) ?_
      simp only [List.set_cons_zero, List.set_cons_succ]
      refine heldTake 5 82 rfl rfl (by kernel_rfl) (by kernel_rfl) (by kernel_rfl) (fun _ _ _ h => h) hS20 (.inl ⟨by rfl, by intro w' hS; obtain ⟨s1, s2⟩ := hS; go_simp; (try rfl)⟩) ?_
      simp only [List.set_cons_zero, List.set_cons_succ]
      refine heldTake 7 84 rfl rfl (by kernel_rfl) (by kernel_rfl) (by kernel_rfl) (fun _ _ _ h => h) hS20 (.inl ⟨by rfl, by intro w' hS; obtain ⟨s1, s2⟩ := hS; go_simp; (try rfl)⟩) ?_
      simp only [List.set_cons_zero, List.set_cons_succ]
      refine heldTake 2 79 rfl rfl (by kernel_rfl) (by kernel_rfl) (by kernel_rfl) (fun _ _ _ h => h) hS20 (.inl ⟨by rfl, by intro w' hS; obtain ⟨s1, s2⟩ := hS; go_simp; (try rfl)⟩) ?_
      simp only [List.set_cons_zero, List.set_cons_succ]
      refine heldTake 6 83 rfl rfl (by kernel_rfl) (by kernel_rfl) (by kernel_rfl) (fun _ _ _ h => h) hS20 (.inl ⟨by rfl, by intro w' hS; obtain ⟨s1, s2⟩ := hS; go_simp; (try rfl)⟩) ?_
      simp only [List.set_cons_zero, List.set_cons_succ]
      refine heldTake 3 80 rfl rfl (by kernel_rfl) (by kernel_rfl) (by kernel_rfl) (fun _ _ _ h => h) hS20 (.inl ⟨by rfl, by intro w' hS; obtain ⟨s1, s2⟩ := hS; go_simp; (try rfl)⟩) ?_
      simp only [List.set_cons_zero, List.set_cons_succ]
      refine heldTake 8 85 (v := .int .i64 (min x.o U)) rfl rfl (by kernel_rfl) (by kernel_rfl) (by kernel_rfl) (fun _ _ _ h => h) hS20 (.inl ⟨by rfl, by intro w' hS; clear hS; go_simp; (try (all_goals rfl))⟩) ?_
      simp only [List.set_cons_zero, List.set_cons_succ]
      have p2 : w20.cell? ⟨p, 8, none⟩ = some (.int .i64 S.commit) := by rw [← HCM.out]; exact HR20.out.c rfl
      have f2 := HR20.out.f 8
      have HS20 := Lib.hid hS20
      clear hS20
      refine heldOne 4 (by kernel_rfl) rfl (by rfl) ?_
      go_simp
      refine ⟨HS20.out, ?_⟩
      refine heldOne 9 (by kernel_rfl) rfl (by rfl) ?_
      go_simp
      refine ⟨HS20.out, ?_⟩
      have hS20 := HS20.out
      refine heldTake 10 87 rfl rfl (by kernel_rfl) (by kernel_rfl) (by kernel_rfl) (fun _ _ _ h => h) hS20 (.inl ⟨by rfl, by intro w' hS; obtain ⟨s1, s2⟩ := hS; go_simp; (try rfl)⟩) ?_
      simp only [List.set_cons_zero, List.set_cons_succ]
      refine heldTake 11 88 rfl rfl (by kernel_rfl) (by kernel_rfl) (by kernel_rfl) (fun _ _ _ h => h) hS20 (.inl ⟨by rfl, by intro w' hS; obtain ⟨s1, s2⟩ := hS; go_simp; (try rfl)⟩) ?_
      simp only [List.set_cons_zero, List.set_cons_succ]
      clear hS20
      refine heldOne 12 (by kernel_rfl) rfl (by rfl) ?_
      refine wp_store_cell 3 (.tmp 88) (.tmp 86) rfl p 8 (iz (max S.commit (min x.o U))) _ rfl rfl rfl (by kernel_rfl) p2 f2 ?_
      obtain ⟨w21, hw21⟩ : ∃ w21, w21 = w20.setCell ⟨p, 8, none⟩ (iz (max S.commit (min x.o U))) := ⟨_, rfl⟩
      obtain ⟨a21, b21⟩ := HR20.out.setCommit (max S.commit (min x.o U))
      rw [← hw21] at a21 b21 ⊢
      have HR21 := Lib.hid a21
      have HT21 := Lib.hid ((HT6.out.trans (.ofBelow hdr)).trans b21)
      have HBX21 := Lib.hid ((b21.block w.heap.size (by omega) HNW6.out).trans HBX20.out)
      clear hw21 a21 b21 p2 f2 hdr
      refine ⟨SntS.of HBX21.out, wpAnyH_done (by kernel_rfl) ?_ _⟩
      have l2 := (letCells HBX21.out).2.2.1
      go_wp2_with fail
      clear l2
      refine (raftPost0 p { R4.noteItems j with commit := max S.commit (min x.o U) } M6 f ⟨4, 0, U, 0, x.a, true, [], []⟩ rfl rfl (by show (R4.noteItems j).out.length ≤ _; rw [HOU.out]; have := HGS.out.2; omega) _ HR21.out).mono ?_
      rintro e w22 ⟨rfl, M22, hr22, ht22⟩
      have HR22 := Lib.hid hr22
      have HT22 := Lib.hid (HT21.out.trans ht22)
      clear hr22 ht22
      go_wp2
      go_end0
      exact ⟨rfl, M22, by rw [HFF.out]; exact HR22.out, HT22.out⟩
end
end Go.Proofs.YtogcnfhmcpkdcaaGreat

namespace Go.Proofs.YtogcnfhmcpkdcaaGreat
open Go.RowKit
set_option linter.unusedVariables false
set_option linter.unusedSimpArgs false

section
/-- the state is laid anew -/
theorem RfAt.setState {w : World} {p : Nat} {R : PRaft} {M : RMem} (h : RfAt w p R M) {a : Option Addr} {c : Nat} {s : List UInt8} (hb : ByAt w a c s) : RfAt (w.setCell ⟨p, 5, none⟩ (.slice a s.length c)) p { R with state := s } { M with sa := a, sc := c } ∧ RTouch p M { M with sa := a, sc := c } w (w.setCell ⟨p, 5, none⟩ (.slice a s.length c)) := by
  have hoth : ∀ k, k ≠ p → (w.setCell ⟨p, 5, none⟩ (.slice a s.length c)).heap[k]? = w.heap[k]? := fun k hk => Below.heap_setCell _ _ _ k hk
  obtain ⟨a1, a2, a3, a4, -⟩ := h.apart
  have hT : RTouch p M { M with sa := a, sc := c } w (w.setCell ⟨p, 5, none⟩ (.slice a s.length c)) := ⟨rfl, rfl, rfl, by simp, fun k hk hno => hoth k (fun e => hno (.inl e)), fun k hk => .inl hk⟩
  have h9 := heap_setCell_same w p 5 _ _ (.slice a s.length c) h.row
  refine ⟨⟨h.sv.cp rfl rfl rfl, ?_, h.lnKeep hT (hoth _ a1) fun k hk => hoth k (fun e => a2 (by rw [← e]; exact hk)), h.keeps hT hb, own_mv9 h.nw fun g hg => hoth g (fun e => by rw [ownBlock_eq] at hg; exact a3 (by rw [← e]; exact hg)), fun m hm => h.keeps hT (h.nb m hm), h.nq, own_mv9 h.ou fun g hg => hoth g (fun e => by rw [ownBlock_eq] at hg; exact a4 (by rw [← e]; exact hg)), h.oq, h.postKeep hT rfl rfl⟩, hT⟩
  rw [h9, ← rcells_setHead (R := R) (R' := { R with state := s }) (M := M) (M' := { M with sa := a, sc := c }) (j := 5) (x := .slice a s.length c) (by omega) rfl rfl rfl rfl rfl]
  simp

/-- what the drawn regions of given read -/
structure GvS (g : Nat) (x : PLet) (W : World) : Prop where
  l2 : W.cell? ⟨g, 2, none⟩ = some (.int .i64 x.a)
  l3 : W.cell? ⟨g, 3, none⟩ = some (.int .i64 x.u)
theorem GvS.of {g : Nat} {x : PLet} {ia : Option Addr} {n ic : Nat} {ba : Option Addr} {bc : Nat} {w : World} (hb : w.heap[g]? = some (.cells (lcell x ia n ic ba bc) 32 (0, 0))) : GvS g x w :=
  let ⟨_, _, l2, l3, _⟩ := letCells hb
  ⟨l2, l3⟩
structure GvC (p g : Nat) (c : Int) (x : PLet) (W : World) : Prop where
  l2 : W.cell? ⟨g, 2, none⟩ = some (.int .i64 x.a)
  c8 : W.cell? ⟨p, 8, none⟩ = some (.int .i64 c)
structure GvL (p g lb : Nat) (x : PLet) (W : World) : Prop where
  l2 : W.cell? ⟨g, 2, none⟩ = some (.int .i64 x.a)
  c4 : W.cell? ⟨p, 4, none⟩ = some (.pointer (some ⟨lb, 0, none⟩))

set_option maxRecDepth 100000 in
set_option maxHeartbeats 2000000 in
theorem raftGiven (p : Nat) (R : PRaft) (M : RMem) (f : Int) (x : PLet) (ia : Option Addr) (ic : Nat) (ms : List MItem) (ba : Option Addr) (bc : Nat) (hok : R.Ok) (hr : rightL x = true) (hnw : R.news.length ≤ 999990000) (ho : R.out.length ≤ 999999000) (w : World) (h : RfAt w p R M) (hx : LetFar w p M x ia ic ms ba bc) :
    Calls Tryz.prog 49 #[.pointer (some ⟨p, 0, none⟩), .int .i64 f, .agg (lcell x ia ms.length ic ba bc)] w fun e w' => e = .returned (.tuple #[]) ∧ ∃ M', RfAt w' p (R.given f x) M' ∧ RTouch p M M' w w' := by
  obtain ⟨-, -, ⟨ha0, ha1⟩, ⟨hu0, hu1⟩, ⟨ho0, ho1⟩, hi16, -, hits, -⟩ := right_places hr
  have hlen := hx.la.len
  obtain ⟨V, hV, hbV, hsV, hrV⟩ := letBox w x ia ms.length ic ba bc
  have hrf := h.below hbV
  have HR := Lib.hid hrf
  have HB := Lib.hid hbV
  have HV := Lib.hid hV
  have HBX := Lib.hid hrV
  have HNW := Lib.hid (h.notNew (Nat.le_refl w.heap.size))
  have HX := Lib.hid (hx.below hbV)
  have HOK := Lib.hid hok
  have HLEN := Lib.hid hlen
  have HITS := Lib.hid hits
  obtain ⟨S, b, hF⟩ : ∃ S b, R.follows f x = (S, b) := ⟨_, _, rfl⟩
  have HF := Lib.hid hF
  have HOKS := Lib.hid (show S.Ok by have h9 := ok_follows hok f x; rw [hF] at h9; exact h9)
  have HGS := Lib.hid (show S.news.length ≤ 999990000 ∧ S.out.length ≤ 999999001 by
    have h9 : Grows 0 1 0 R S := by
      have h8 := grows_follows R f x
      rw [hF] at h8
      exact h8
    exact ⟨by have := h9.1; omega, by have := h9.2.1; omega⟩)
  obtain ⟨l0, l1, l2, l3, l4, l5, l6, l7⟩ := letCells hrV
  rw [hV] at l0 l1 l2 l3 l4 l5 l6 l7
  clear hrf hbV hV hrV h hok hx hlen hits hF
  go_enter Tryz.func49, Tryz.ntmps49
  go_wp2_with fail
  rw [← HV.out]
  clear l0 l1 l2 l3 l4 l5 l6 l7
  refine (raftFollows p R M f x ia ms.length ic ba bc (by omega) _ HR.out).mono ?_
  rintro e w1 ⟨rfl, M1, hr1, ht1⟩
  rw [HF.out] at hr1 ⊢
  have HR1 := Lib.hid (show RfAt w1 p S M1 from hr1)
  have HT1 := Lib.hid ((RTouch.ofBelow HB.out).trans ht1)
  have HBX1 := Lib.hid ((ht1.block w.heap.size (by omega) HNW.out).trans HBX.out)
  have HX1 := Lib.hid (HX.out.touch ht1)
  have hs1 := ht1.size
  have HNW1 := Lib.hid (show ¬ M1.own p w.heap.size from fun h9 => by
    rcases ht1.fresh _ h9 with h8 | h8
    · exact HNW.out h8
    · omega)
  clear hr1 ht1
  cases b with
  | false =>
    have HFIN := Lib.hid (show R.given f x = S by unfold PRaft.given; rw [HF.out]; rfl)
    go_wp2
    refine bodyPost_ret (results_none rfl _ _ _) rfl ?_
    exact ⟨rfl, M1, by rw [HFIN.out]; exact HR1.out, HT1.out⟩
  | true =>
    have HFIN := Lib.hid (show R.given f x = S.given1 f x by unfold PRaft.given; rw [HF.out]; rfl)
    have c8 : w1.cell? ⟨p, 8, none⟩ = some (.int .i64 S.commit) := HR1.out.c rfl
    have l2 := (letCells HBX1.out).2.2.1
    by_cases hle : x.a ≤ S.commit
    · have t1 : decide (x.a ≤ S.commit) = true := decide_eq_true hle
      have HFF := Lib.hid (show R.given f x = S.post f ⟨4, 0, S.commit, 0, x.a, true, [], []⟩ by rw [HFIN.out]; unfold PRaft.given1; rw [if_pos hle])
      clear hle
      go_wp2_with fail
      go_quiet (fail)
      go_wp2_with fail
      obtain ⟨w2, hw2⟩ : ∃ w2, w2 = w1.drewN nq := ⟨_, rfl⟩
      rw [← hw2]
      have hb2 : Below w1.heap.size w1 w2 := by rw [hw2]; exact below_drewN w1 nq
      have HR2 := Lib.hid (HR1.out.below hb2)
      have HBX2 := Lib.hid ((hb2.block w.heap.size (by omega)).trans HBX1.out)
      have HT2 := Lib.hid (HT1.out.trans (.ofBelow hb2))
      have hs2 := hb2.size
      clear hw2 hb2 c8 l2
      refine wp_region_any (by kernel_rfl) ?_
      refine wpAny_of_held (S := GvC p w.heap.size S.commit x) _ _ _ _ ?_
      obtain ⟨w3, hw3⟩ : ∃ w3, w3 = w2.drew := ⟨_, rfl⟩
      have hdr : Below w2.heap.size w2 w3 := by rw [hw3]; exact (Below.refl _ _).drew
      (refine (show wpAnyH _ _ _ _ _ _ _ _ w2.drew from ?_))
      rw [← hw3]
      clear hw3
      have HR3 := Lib.hid (HR2.out.below hdr)
      have HBX3 := Lib.hid ((hdr.block w.heap.size (by omega)).trans HBX2.out)
      have hs3 := hdr.size
      have hS3 : GvC p w.heap.size S.commit x w3 := ⟨(letCells HBX3.out).2.2.1, HR3.out.c rfl⟩
      refine heldTake 0 20 rfl rfl (by kernel_rfl) (by kernel_rfl) (by kernel_rfl) (fun _ _ _ h => h) hS3 (.inl ⟨by rfl, by intro w' hS; obtain ⟨s1, s2⟩ := hS; go_simp; (try rfl)⟩) ?_
      simp only [List.set_cons_zero, List.set_cons_succ]
      refine heldTake 1 21 rfl rfl (by kernel_rfl) (by kernel_rfl) (by kernel_rfl) (fun _ _ _ h => h) hS3 (.inl ⟨by rfl, by intro w' hS; obtain ⟨s1, s2⟩ := hS; go_simp; (try rfl)⟩) ?_
      simp only [List.set_cons_zero, List.set_cons_succ]
      refine heldTake 2 22 rfl rfl (by kernel_rfl) (by kernel_rfl) (by kernel_rfl) (fun _ _ _ h => h) hS3 (.inl ⟨by rfl, by intro w' hS; obtain ⟨s1, s2⟩ := hS; go_simp; (try rfl)⟩) ?_
      simp only [List.set_cons_zero, List.set_cons_succ]
      refine heldTake 6 26 rfl rfl (by kernel_rfl) (by kernel_rfl) (by kernel_rfl) (fun _ _ _ h => h) hS3 (.inl ⟨by rfl, by intro w' hS; obtain ⟨s1, s2⟩ := hS; go_simp; (try rfl)⟩) ?_
      simp only [List.set_cons_zero, List.set_cons_succ]
      refine heldTake 3 23 rfl rfl (by kernel_rfl) (by kernel_rfl) (by kernel_rfl) (fun _ _ _ h => h) hS3 (.inl ⟨by rfl, by intro w' hS; obtain ⟨s1, s2⟩ := hS; go_simp; (try rfl)⟩) ?_
      simp only [List.set_cons_zero, List.set_cons_succ]
      refine heldTake 7 27 rfl rfl (by kernel_rfl) (by kernel_rfl) (by kernel_rfl) (fun _ _ _ h => h) hS3 (.inl ⟨by rfl, by intro w' hS; obtain ⟨s1, s2⟩ := hS; go_simp; (try rfl)⟩) ?_
      simp only [List.set_cons_zero, List.set_cons_succ]
      refine heldTake 4 24 rfl rfl (by kernel_rfl) (by kernel_rfl) (by kernel_rfl) (fun _ _ _ h => h) hS3 (.inl ⟨by rfl, by intro w' hS; obtain ⟨s1, s2⟩ := hS; go_simp; (try rfl)⟩) ?_
      simp only [List.set_cons_zero, List.set_cons_succ]
      refine heldTake 5 25 rfl rfl (by kernel_rfl) (by kernel_rfl) (by kernel_rfl) (fun _ _ _ h => h) hS3 (.inl ⟨by rfl, by intro w' hS; obtain ⟨s1, s2⟩ := hS; go_simp; (try rfl)⟩) ?_
      simp only [List.set_cons_zero, List.set_cons_succ]
      refine heldTake 8 28 (v := .agg (lcell ⟨4, 0, S.commit, 0, x.a, true, [], []⟩ none 0 0 none 0)) rfl rfl (by kernel_rfl) (by kernel_rfl) (by kernel_rfl) (fun _ _ _ h => h) hS3 (.inl ⟨by rfl, by intro w' hS; clear hS; go_simp; (try (all_goals rfl))⟩) ?_
      simp only [List.set_cons_zero, List.set_cons_succ]
      clear hS3
      refine heldOne 9 (by kernel_rfl) rfl (by rfl) ?_
      go_simp
      refine (raftPost0 p S M1 f ⟨4, 0, S.commit, 0, x.a, true, [], []⟩ rfl rfl (by have := HGS.out.2; omega) _ HR3.out).mono ?_
      rintro e w6 ⟨rfl, M6, hr6, ht6⟩
      have HR6 := Lib.hid hr6
      have HT6 := Lib.hid (HT2.out.trans ((RTouch.ofBelow hdr).trans ht6))
      have HBX6 := Lib.hid ((ht6.block w.heap.size (by omega) HNW1.out).trans HBX3.out)
      refine ⟨⟨(letCells HBX6.out).2.2.1, hr6.c rfl⟩, wpAnyH_done (by kernel_rfl) ?_ _⟩
      clear hr6 ht6 hdr
      go_wp2
      refine bodyPost_ret (results_none rfl _ _ _) rfl ?_
      exact ⟨rfl, M6, by rw [HFF.out]; exact HR6.out, HT6.out⟩
    · have t1 : decide (x.a ≤ S.commit) = false := decide_eq_false hle
      have HFF := Lib.hid (show R.given f x = ({ S with line := S.giveLine x, commit := x.a, applied := x.a, state := x.b, jumped := true } : PRaft).post f ⟨4, 0, x.a, 0, x.a, true, [], []⟩ by rw [HFIN.out]; unfold PRaft.given1; rw [if_neg hle])
      have HLE := Lib.hid hle
      clear hle
      go_wp2_with fail
      go_quiet (fail)
      go_wp2_with fail
      obtain ⟨w2, hw2⟩ : ∃ w2, w2 = w1.drewN nq := ⟨_, rfl⟩
      rw [← hw2]
      have hb2 : Below w1.heap.size w1 w2 := by rw [hw2]; exact below_drewN w1 nq
      have HR2 := Lib.hid (HR1.out.below hb2)
      have HBX2 := Lib.hid ((hb2.block w.heap.size (by omega)).trans HBX1.out)
      have HX2 := Lib.hid (HX1.out.below hb2)
      have HT2 := Lib.hid (HT1.out.trans (.ofBelow hb2))
      have hs2 := hb2.size
      clear hw2 hb2 c8 l2
      refine wp_region_any (by kernel_rfl) ?_
      refine wpAny_of_held (S := GvL p w.heap.size M1.lb x) _ _ _ _ ?_
      obtain ⟨w3, hw3⟩ : ∃ w3, w3 = w2.drew := ⟨_, rfl⟩
      have hdr : Below w2.heap.size w2 w3 := by rw [hw3]; exact (Below.refl _ _).drew
      (refine (show wpAnyH _ _ _ _ _ _ _ _ w2.drew from ?_))
      rw [← hw3]
      clear hw3
      have HR3 := Lib.hid (HR2.out.below hdr)
      have HBX3 := Lib.hid ((hdr.block w.heap.size (by omega)).trans HBX2.out)
      have hs3 := hdr.size
      have hS3 : GvL p w.heap.size M1.lb x w3 := ⟨(letCells HBX3.out).2.2.1, HR3.out.c rfl⟩
      refine heldTake 0 31 rfl rfl (by kernel_rfl) (by kernel_rfl) (by kernel_rfl) (fun _ _ _ h => h) hS3 (.inl ⟨by rfl, by intro w' hS; obtain ⟨s1, s2⟩ := hS; go_simp; (try rfl)⟩) ?_
      simp only [List.set_cons_zero, List.set_cons_succ]
      refine heldTake 4 35 rfl rfl (by kernel_rfl) (by kernel_rfl) (by kernel_rfl) (fun _ _ _ h => h) hS3 (.inl ⟨by rfl, by intro w' hS; obtain ⟨s1, s2⟩ := hS; go_simp; (try rfl)⟩) ?_
      simp only [List.set_cons_zero, List.set_cons_succ]
      refine heldTake 1 32 rfl rfl (by kernel_rfl) (by kernel_rfl) (by kernel_rfl) (fun _ _ _ h => h) hS3 (.inl ⟨by rfl, by intro w' hS; obtain ⟨s1, s2⟩ := hS; go_simp; (try rfl)⟩) ?_
      simp only [List.set_cons_zero, List.set_cons_succ]
      refine heldTake 5 36 rfl rfl (by kernel_rfl) (by kernel_rfl) (by kernel_rfl) (fun _ _ _ h => h) hS3 (.inl ⟨by rfl, by intro w' hS; obtain ⟨s1, s2⟩ := hS; go_simp; (try rfl)⟩) ?_
      simp only [List.set_cons_zero, List.set_cons_succ]
      refine heldTake 2 33 rfl rfl (by kernel_rfl) (by kernel_rfl) (by kernel_rfl) (fun _ _ _ h => h) hS3 (.inl ⟨by rfl, by intro w' hS; obtain ⟨s1, s2⟩ := hS; go_simp; (try rfl)⟩) ?_
      simp only [List.set_cons_zero, List.set_cons_succ]
      refine heldTake 3 34 rfl rfl (by kernel_rfl) (by kernel_rfl) (by kernel_rfl) (fun _ _ _ h => h) hS3 (.inl ⟨by rfl, by intro w' hS; obtain ⟨s1, s2⟩ := hS; go_simp; (try rfl)⟩) ?_
      simp only [List.set_cons_zero, List.set_cons_succ]
      clear hS3
      refine heldOne 6 (by kernel_rfl) rfl (by rfl) ?_
      go_simp
      refine (lineTerm 0 M1.lb S.line HOKS.out.line M1.la M1.lc M1.ms x.a _ HR3.out.ln).mono ?_
      rintro e w4 ⟨rfl, m4, hm4⟩
      obtain ⟨Tm, hTm⟩ : ∃ Tm, (tmIs S.line x.a).1 = Tm := ⟨_, rfl⟩
      obtain ⟨Is, hIs⟩ : ∃ Is, (tmIs S.line x.a).2 = Is := ⟨_, rfl⟩
      rw [hTm, hIs]
      have HTI := Lib.hid (show (tmIs S.line x.a).1 = Tm ∧ (tmIs S.line x.a).2 = Is from ⟨hTm, hIs⟩)
      have hb4 : Below w2.heap.size w2 w4 := hdr.trans (by rw [hm4]; exact (below_drewN w3 m4).mono hs3)
      have HR4 := Lib.hid (HR2.out.below hb4)
      have HBX4 := Lib.hid ((hb4.block w.heap.size (by omega)).trans HBX2.out)
      have HX4 := Lib.hid (HX2.out.below hb4)
      have HT4 := Lib.hid (HT2.out.trans (.ofBelow hb4))
      have hs4 := hb4.size
      have hS4 : GvL p w.heap.size M1.lb x w4 := ⟨(letCells HBX4.out).2.2.1, HR4.out.c rfl⟩
      clear hm4 hTm hIs hb4 hdr
      refine ⟨hS4, ?_⟩
      refine heldTake 7 30 rfl rfl (by kernel_rfl) (by kernel_rfl) (by kernel_rfl) (fun _ _ _ h => h) hS4 (.inl ⟨by rfl, by intro w' hS; obtain ⟨s1, s2⟩ := hS; go_simp; (try rfl)⟩) ?_
      simp only [List.set_cons_zero, List.set_cons_succ]
      refine heldTake 8 38 (v := .int .i64 Tm) rfl rfl (by kernel_rfl) (by kernel_rfl) (by kernel_rfl) (fun _ _ _ h => h) hS4 (.inl ⟨by rfl, by intro w' hS; clear hS; go_simp; (try (all_goals rfl))⟩) ?_
      simp only [List.set_cons_zero, List.set_cons_succ]
      refine heldTake 9 39 (v := .bool Is) rfl rfl (by kernel_rfl) (by kernel_rfl) (by kernel_rfl) (fun _ _ _ h => h) hS4 (.inl ⟨by rfl, by intro w' hS; clear hS; go_simp; (try (all_goals rfl))⟩) ?_
      simp only [List.set_cons_zero, List.set_cons_succ]
      refine heldTake 10 6 rfl rfl (by kernel_rfl) (by kernel_rfl) (by kernel_rfl) (fun _ _ _ h => h) hS4 (.inl ⟨by rfl, by intro w' hS; obtain ⟨s1, s2⟩ := hS; go_simp; (try rfl)⟩) ?_
      simp only [List.set_cons_zero, List.set_cons_succ]
      refine heldTake 11 7 rfl rfl (by kernel_rfl) (by kernel_rfl) (by kernel_rfl) (fun _ _ _ h => h) hS4 (.inl ⟨by rfl, by intro w' hS; obtain ⟨s1, s2⟩ := hS; go_simp; (try rfl)⟩) ?_
      simp only [List.set_cons_zero, List.set_cons_succ]
      refine wpAnyH_done (by kernel_rfl) ?_ _
      clear hS4
      have l3 := (letCells HBX4.out).2.2.2.1
      by_cases hdp : Is = true ∧ Tm = x.u
      · have HLN := Lib.hid (show S.giveLine x = (S.line.drop x.a).1 by unfold PRaft.giveLine; rw [HTI.out.1, HTI.out.2, if_pos hdp])
        have t2 : (Tm == x.u) = true := by simpa using hdp.2
        have hIs := hdp.1
        subst hIs
        clear hdp
        go_wp2_with fail
        clear l3
        refine wp_region_any (by kernel_rfl) ?_
        refine wpAny_of_held (S := GvL p w.heap.size M1.lb x) _ _ _ _ ?_
        obtain ⟨w5, hw5⟩ : ∃ w5, w5 = w4.drew := ⟨_, rfl⟩
        have hdr : Below w4.heap.size w4 w5 := by rw [hw5]; exact (Below.refl _ _).drew
        (refine (show wpAnyH _ _ _ _ _ _ _ _ w4.drew from ?_))
        rw [← hw5]
        clear hw5
        have HR5 := Lib.hid (HR4.out.below hdr)
        have HBX5 := Lib.hid ((hdr.block w.heap.size (by omega)).trans HBX4.out)
        have hs5 := hdr.size
        have hS5 : GvL p w.heap.size M1.lb x w5 := ⟨(letCells HBX5.out).2.2.1, HR5.out.c rfl⟩
        refine heldTake 0 47 rfl rfl (by kernel_rfl) (by kernel_rfl) (by kernel_rfl) (fun _ _ _ h => h) hS5 (.inl ⟨by rfl, by intro w' hS; obtain ⟨s1, s2⟩ := hS; go_simp; (try rfl)⟩) ?_
        simp only [List.set_cons_zero, List.set_cons_succ]
        refine heldTake 4 51 rfl rfl (by kernel_rfl) (by kernel_rfl) (by kernel_rfl) (fun _ _ _ h => h) hS5 (.inl ⟨by rfl, by intro w' hS; obtain ⟨s1, s2⟩ := hS; go_simp; (try rfl)⟩) ?_
        simp only [List.set_cons_zero, List.set_cons_succ]
        refine heldTake 1 48 rfl rfl (by kernel_rfl) (by kernel_rfl) (by kernel_rfl) (fun _ _ _ h => h) hS5 (.inl ⟨by rfl, by intro w' hS; obtain ⟨s1, s2⟩ := hS; go_simp; (try rfl)⟩) ?_
        simp only [List.set_cons_zero, List.set_cons_succ]
        refine heldTake 5 52 rfl rfl (by kernel_rfl) (by kernel_rfl) (by kernel_rfl) (fun _ _ _ h => h) hS5 (.inl ⟨by rfl, by intro w' hS; obtain ⟨s1, s2⟩ := hS; go_simp; (try rfl)⟩) ?_
        simp only [List.set_cons_zero, List.set_cons_succ]
        refine heldTake 2 49 rfl rfl (by kernel_rfl) (by kernel_rfl) (by kernel_rfl) (fun _ _ _ h => h) hS5 (.inl ⟨by rfl, by intro w' hS; obtain ⟨s1, s2⟩ := hS; go_simp; (try rfl)⟩) ?_
        simp only [List.set_cons_zero, List.set_cons_succ]
        refine heldTake 3 50 rfl rfl (by kernel_rfl) (by kernel_rfl) (by kernel_rfl) (fun _ _ _ h => h) hS5 (.inl ⟨by rfl, by intro w' hS; obtain ⟨s1, s2⟩ := hS; go_simp; (try rfl)⟩) ?_
        simp only [List.set_cons_zero, List.set_cons_succ]
        clear hS5
        refine heldOne 6 (by kernel_rfl) rfl (by rfl) ?_
        go_simp
        refine (lineDrop 0 M1.lb S.line HOKS.out.line M1.la M1.lc M1.ms x.a _ HR5.out.ln (Nat.zero_le _)).mono ?_
        rintro e w6 ⟨rfl, hl6⟩
        obtain ⟨la6, lc6, ms6, a6, b6⟩ := HR5.out.lined hl6
        obtain ⟨M6, hM6⟩ : ∃ M6 : RMem, M6 = { M1 with la := la6, lc := lc6, ms := ms6 } := ⟨_, rfl⟩
        rw [← hM6] at a6 b6
        have HR6 := Lib.hid a6
        have HT6 := Lib.hid (HT4.out.trans ((RTouch.ofBelow hdr).trans b6))
        have HBX6 := Lib.hid ((b6.block w.heap.size (by omega) HNW1.out).trans HBX5.out)
        have HX6 := Lib.hid ((HX4.out.below hdr).touch b6)
        have HNW6 := Lib.hid (show ¬ M6.own p w.heap.size from fun h9 => by
          rcases b6.fresh _ h9 with h8 | h8
          · exact HNW1.out h8
          · omega)
        have hs6 := b6.size
        have hltW : w.heap.size < w6.heap.size := by omega
        have hS6 : GvL p w.heap.size M1.lb x w6 := ⟨(letCells HBX6.out).2.2.1, by have h9 : w6.cell? ⟨p, 4, none⟩ = some (.pointer (some ⟨M6.lb, 0, none⟩)) := a6.c rfl; rw [hM6] at h9; exact h9⟩
        refine ⟨hS6, wpAnyH_done (by kernel_rfl) ?_ _⟩
        clear hS6 hM6 a6 b6 hl6 hdr
        go_wp2_with fail
        refine wp_region_any (by kernel_rfl) ?_
        refine wpAny_of_held (S := GvS w.heap.size x) _ _ _ _ ?_
        obtain ⟨w20, hw20⟩ : ∃ w20, w20 = w6.drew := ⟨_, rfl⟩
        have hdr : Below w6.heap.size w6 w20 := by rw [hw20]; exact (Below.refl _ _).drew
        (refine (show wpAnyH _ _ _ _ _ _ _ _ w6.drew from ?_))
        rw [← hw20]
        clear hw20
        have HR20 := Lib.hid (HR6.out.below hdr)
        have HBX20 := Lib.hid ((hdr.block w.heap.size hltW).trans HBX6.out)
        have HX20 := Lib.hid (HX6.out.below hdr)
        have hs20 := hdr.size
        have hS20 : GvS w.heap.size x w20 := GvS.of HBX20.out
        refine heldTake 0 62 rfl rfl (by kernel_rfl) (by kernel_rfl) (by kernel_rfl) (fun _ _ _ h => h) hS20 (.inl ⟨by rfl, by intro w' hS; obtain ⟨s1, s2⟩ := hS; go_simp; (try rfl)⟩) ?_
        simp only [List.set_cons_zero, List.set_cons_succ]
        refine heldTake 1 63 rfl rfl (by kernel_rfl) (by kernel_rfl) (by kernel_rfl) (fun _ _ _ h => h) hS20 (.inl ⟨by rfl, by intro w' hS; obtain ⟨s1, s2⟩ := hS; go_simp; (try rfl)⟩) ?_
        simp only [List.set_cons_zero, List.set_cons_succ]
        refine heldTake 2 64 rfl rfl (by kernel_rfl) (by kernel_rfl) (by kernel_rfl) (fun _ _ _ h => h) hS20 (.inl ⟨by rfl, by intro w' hS; obtain ⟨s1, s2⟩ := hS; go_simp; (try rfl)⟩) ?_
        simp only [List.set_cons_zero, List.set_cons_succ]
        refine heldTake 4 66 rfl rfl (by kernel_rfl) (by kernel_rfl) (by kernel_rfl) (fun _ _ _ h => h) hS20 (.inl ⟨by rfl, by intro w' hS; obtain ⟨s1, s2⟩ := hS; go_simp; (try rfl)⟩) ?_
        simp only [List.set_cons_zero, List.set_cons_succ]
        refine heldTake 3 65 rfl rfl (by kernel_rfl) (by kernel_rfl) (by kernel_rfl) (fun _ _ _ h => h) hS20 (.inl ⟨by rfl, by intro w' hS; obtain ⟨s1, s2⟩ := hS; go_simp; (try rfl)⟩) ?_
        simp only [List.set_cons_zero, List.set_cons_succ]
        refine heldTake 5 67 rfl rfl (by kernel_rfl) (by kernel_rfl) (by kernel_rfl) (fun _ _ _ h => h) hS20 (.inl ⟨by rfl, by intro w' hS; obtain ⟨s1, s2⟩ := hS; go_simp; (try rfl)⟩) ?_
        simp only [List.set_cons_zero, List.set_cons_succ]
        refine heldTake 6 68 rfl rfl (by kernel_rfl) (by kernel_rfl) (by kernel_rfl) (fun _ _ _ h => h) hS20 (.inl ⟨by rfl, by intro w' hS; obtain ⟨s1, s2⟩ := hS; go_simp; (try rfl)⟩) ?_
        simp only [List.set_cons_zero, List.set_cons_succ]
        refine heldTake 7 69 rfl rfl (by kernel_rfl) (by kernel_rfl) (by kernel_rfl) (fun _ _ _ h => h) hS20 (.inl ⟨by rfl, by intro w' hS; obtain ⟨s1, s2⟩ := hS; go_simp; (try rfl)⟩) ?_
        simp only [List.set_cons_zero, List.set_cons_succ]
        have p2 : w20.cell? ⟨p, 8, none⟩ = some (.int .i64 ({ S with line := (S.line.drop x.a).1 }).commit) := HR20.out.c rfl
        have f2 := HR20.out.f 8
        clear hS20
        refine heldOne 8 (by kernel_rfl) rfl (by rfl) ?_
        refine wp_store_cell 3 (.tmp 69) (.tmp 65) rfl p 8 (iz x.a) _ rfl rfl rfl (by kernel_rfl) p2 f2 ?_
        obtain ⟨w21, hw21⟩ : ∃ w21, w21 = w20.setCell ⟨p, 8, none⟩ (iz x.a) := ⟨_, rfl⟩
        obtain ⟨a21, b21⟩ := HR20.out.setCommit x.a
        rw [← hw21] at a21 b21 ⊢
        have HR21 := Lib.hid a21
        have HT21 := Lib.hid ((HT6.out.trans (.ofBelow hdr)).trans b21)
        have HBX21 := Lib.hid ((b21.block w.heap.size (by omega) HNW6.out).trans HBX20.out)
        have HX21 := Lib.hid (HX20.out.touch b21)
        have hs21 := b21.size
        clear hw21 a21 b21 p2 f2 hdr
        refine ⟨GvS.of HBX21.out, ?_⟩
        have hS21 : GvS w.heap.size x w21 := GvS.of HBX21.out
        refine heldTake 9 70 rfl rfl (by kernel_rfl) (by kernel_rfl) (by kernel_rfl) (fun _ _ _ h => h) hS21 (.inl ⟨by rfl, by intro w' hS; obtain ⟨s1, s2⟩ := hS; go_simp; (try rfl)⟩) ?_
        simp only [List.set_cons_zero, List.set_cons_succ]
        refine heldTake 10 71 rfl rfl (by kernel_rfl) (by kernel_rfl) (by kernel_rfl) (fun _ _ _ h => h) hS21 (.inl ⟨by rfl, by intro w' hS; obtain ⟨s1, s2⟩ := hS; go_simp; (try rfl)⟩) ?_
        simp only [List.set_cons_zero, List.set_cons_succ]
        clear hS21
        have p2 : w21.cell? ⟨p, 9, none⟩ = some (.int .i64 ({ S with line := (S.line.drop x.a).1 }).applied) := HR21.out.c rfl
        have f2 := HR21.out.f 9
        refine heldOne 11 (by kernel_rfl) rfl (by rfl) ?_
        refine wp_store_cell 3 (.tmp 71) (.tmp 67) rfl p 9 (iz x.a) _ rfl rfl rfl (by kernel_rfl) p2 f2 ?_
        obtain ⟨w22, hw22⟩ : ∃ w22, w22 = w21.setCell ⟨p, 9, none⟩ (iz x.a) := ⟨_, rfl⟩
        obtain ⟨a22, b22⟩ := HR21.out.setApplied x.a
        rw [← hw22] at a22 b22 ⊢
        have HR22 := Lib.hid a22
        have HT22 := Lib.hid (HT21.out.trans b22)
        have HBX22 := Lib.hid ((b22.block w.heap.size (by omega) HNW6.out).trans HBX21.out)
        have HX22 := Lib.hid (HX21.out.touch b22)
        have hs22 := b22.size
        clear hw22 a22 b22 p2 f2
        refine ⟨GvS.of HBX22.out, wpAnyH_done (by kernel_rfl) ?_ _⟩
        have l7 := (letCells HBX22.out).2.2.2.2.2.2.2
        go_wp2_with fail
        clear l7
        refine (cloneBy x.b ba bc _ HX22.out.la.b).mono ?_
        rintro e w23 ⟨sa, sc, rfl, hby, hb23⟩
        have HR23 := Lib.hid (HR22.out.below hb23)
        have HT23 := Lib.hid (HT22.out.trans (.ofBelow hb23))
        have HBX23 := Lib.hid ((hb23.block w.heap.size (by omega)).trans HBX22.out)
        have hs23 := hb23.size
        obtain ⟨a24, b24⟩ := HR23.out.setState hby
        obtain ⟨a25, b25⟩ := a24.setJumped true
        obtain ⟨w25, hw25⟩ : ∃ w25, w25 = (w23.setCell ⟨p, 5, none⟩ (.slice sa x.b.length sc)).setCell ⟨p, 32, none⟩ (.bool true) := ⟨_, rfl⟩
        rw [← hw25] at a25 b25
        have b245 := b24.trans b25
        have HR25 := Lib.hid a25
        have HT25 := Lib.hid (HT23.out.trans b245)
        have HBX25 := Lib.hid ((b245.block w.heap.size (by omega) HNW6.out).trans HBX23.out)
        have hw25' := hw25
        have HW25 := Lib.hid hw25
        have c5 : w23.cell? ⟨p, 5, none⟩ = some (.slice (M6).sa ({ S with line := (S.line.drop x.a).1 }).state.length (M6).sc) := HR23.out.c rfl
        have f5 := HR23.out.f 5
        have c32 := HR23.out.tails.1
        have f32 := HR23.out.f 32
        have l2 := (letCells HBX25.out).2.2.1
        rw [hw25] at l2
        clear hb23 hby a24 b24 a25 b25 b245 hw25 hw25'
        go_wp2_with fail
        rw [← HW25.out]
        clear c5 f5 c32 f32 l2
        refine (raftPost0 p { { S with line := (S.line.drop x.a).1 } with commit := x.a, applied := x.a, state := x.b, jumped := true } { M6 with sa := sa, sc := sc } f ⟨4, 0, x.a, 0, x.a, true, [], []⟩ rfl rfl (by show S.out.length ≤ _; have := HGS.out.2; omega) _ HR25.out).mono ?_
        rintro e w26 ⟨rfl, M26, hr26, ht26⟩
        have HR26 := Lib.hid hr26
        have HT26 := Lib.hid (HT25.out.trans ht26)
        clear hr26 ht26
        go_wp2
        go_end0
        exact ⟨rfl, M26, by rw [HFF.out, HLN.out]; exact HR26.out, HT26.out⟩
      · have HLN := Lib.hid (show S.giveLine x = ⟨x.a, x.u, []⟩ by unfold PRaft.giveLine; rw [HTI.out.1, HTI.out.2, if_neg hdp])
        have t2 : Is = true → (Tm == x.u) = false := fun h9 => by
          rw [beq_eq_false_iff_ne]; exact fun h8 => hdp ⟨h9, h8⟩
        have f4 := HR4.out.f 4
        have c4 : w4.cell? ⟨p, 4, none⟩ = some (.pointer (some ⟨M1.lb, 0, none⟩)) := HR4.out.c rfl
        have l2 := (letCells HBX4.out).2.2.1
        have HCOND := Lib.hid t2
        clear hdp t2
        cases Is with
        | true =>
        have t2 : (Tm == x.u) = false := HCOND.out rfl
        go_wp2_with fail
        clear l3 l2
        refine (lineNew_yes x.a x.u (by rw [isNew_iff]; omega) _).mono ?_
        rintro e w5 ⟨rfl, hln5, hb5, hs5⟩
        have HLN5 := Lib.hid hln5
        obtain ⟨a6, b6⟩ := HR4.out.relined hb5 hln5 (Nat.le_refl _)
        obtain ⟨M6, hM6⟩ : ∃ M6 : RMem, M6 = { M1 with lb := w4.heap.size, la := none, lc := 0, ms := [] } := ⟨_, rfl⟩
        obtain ⟨w6, hw6⟩ : ∃ w6, w6 = w5.setCell ⟨p, 4, none⟩ (.pointer (some ⟨w4.heap.size, 0, none⟩)) := ⟨_, rfl⟩
        rw [← hM6, ← hw6] at a6 b6
        have HR6 := Lib.hid a6
        have HT6 := Lib.hid (HT4.out.trans b6)
        have HBX6 := Lib.hid ((b6.block w.heap.size (by omega) HNW1.out).trans HBX4.out)
        have HX6 := Lib.hid (HX4.out.touch b6)
        have HNW6 := Lib.hid (show ¬ M6.own p w.heap.size from fun h9 => by
          rcases b6.fresh _ h9 with h8 | h8
          · exact HNW1.out h8
          · omega)
        have hs6 := b6.size
        have hltW : w.heap.size < w6.heap.size := by omega
        have HW6 := Lib.hid hw6
        have hpl := HR4.out.lt
        have c4' : w5.cell? ⟨p, 4, none⟩ = some (.pointer (some ⟨M1.lb, 0, none⟩)) := (hb5.cell (p := ⟨p, 4, none⟩) hpl).trans c4
        have f4' : w5.frozen? ⟨p, 4, none⟩ = false := (hb5.frozen (p := ⟨p, 4, none⟩) hpl).trans f4
        clear c4 f4 hM6 a6 b6 hw6 hln5
        go_wp2_with fail
        rw [← HW6.out]
        clear c4' f4' hb5
        refine wp_region_any (by kernel_rfl) ?_
        refine wpAny_of_held (S := GvS w.heap.size x) _ _ _ _ ?_
        obtain ⟨w20, hw20⟩ : ∃ w20, w20 = w6.drew := ⟨_, rfl⟩
        have hdr : Below w6.heap.size w6 w20 := by rw [hw20]; exact (Below.refl _ _).drew
        (refine (show wpAnyH _ _ _ _ _ _ _ _ w6.drew from ?_))
        rw [← hw20]
        clear hw20
        have HR20 := Lib.hid (HR6.out.below hdr)
        have HBX20 := Lib.hid ((hdr.block w.heap.size hltW).trans HBX6.out)
        have HX20 := Lib.hid (HX6.out.below hdr)
        have hs20 := hdr.size
        have hS20 : GvS w.heap.size x w20 := GvS.of HBX20.out
        refine heldTake 0 62 rfl rfl (by kernel_rfl) (by kernel_rfl) (by kernel_rfl) (fun _ _ _ h => h) hS20 (.inl ⟨by rfl, by intro w' hS; obtain ⟨s1, s2⟩ := hS; go_simp; (try rfl)⟩) ?_
        simp only [List.set_cons_zero, List.set_cons_succ]
        refine heldTake 1 63 rfl rfl (by kernel_rfl) (by kernel_rfl) (by kernel_rfl) (fun _ _ _ h => h) hS20 (.inl ⟨by rfl, by intro w' hS; obtain ⟨s1, s2⟩ := hS; go_simp; (try rfl)⟩) ?_
        simp only [List.set_cons_zero, List.set_cons_succ]
        refine heldTake 2 64 rfl rfl (by kernel_rfl) (by kernel_rfl) (by kernel_rfl) (fun _ _ _ h => h) hS20 (.inl ⟨by rfl, by intro w' hS; obtain ⟨s1, s2⟩ := hS; go_simp; (try rfl)⟩) ?_
        simp only [List.set_cons_zero, List.set_cons_succ]
        refine heldTake 4 66 rfl rfl (by kernel_rfl) (by kernel_rfl) (by kernel_rfl) (fun _ _ _ h => h) hS20 (.inl ⟨by rfl, by intro w' hS; obtain ⟨s1, s2⟩ := hS; go_simp; (try rfl)⟩) ?_
        simp only [List.set_cons_zero, List.set_cons_succ]
        refine heldTake 3 65 rfl rfl (by kernel_rfl) (by kernel_rfl) (by kernel_rfl) (fun _ _ _ h => h) hS20 (.inl ⟨by rfl, by intro w' hS; obtain ⟨s1, s2⟩ := hS; go_simp; (try rfl)⟩) ?_
        simp only [List.set_cons_zero, List.set_cons_succ]
        refine heldTake 5 67 rfl rfl (by kernel_rfl) (by kernel_rfl) (by kernel_rfl) (fun _ _ _ h => h) hS20 (.inl ⟨by rfl, by intro w' hS; obtain ⟨s1, s2⟩ := hS; go_simp; (try rfl)⟩) ?_
        simp only [List.set_cons_zero, List.set_cons_succ]
        refine heldTake 6 68 rfl rfl (by kernel_rfl) (by kernel_rfl) (by kernel_rfl) (fun _ _ _ h => h) hS20 (.inl ⟨by rfl, by intro w' hS; obtain ⟨s1, s2⟩ := hS; go_simp; (try rfl)⟩) ?_
        simp only [List.set_cons_zero, List.set_cons_succ]
        refine heldTake 7 69 rfl rfl (by kernel_rfl) (by kernel_rfl) (by kernel_rfl) (fun _ _ _ h => h) hS20 (.inl ⟨by rfl, by intro w' hS; obtain ⟨s1, s2⟩ := hS; go_simp; (try rfl)⟩) ?_
        simp only [List.set_cons_zero, List.set_cons_succ]
        have p2 : w20.cell? ⟨p, 8, none⟩ = some (.int .i64 ({ S with line := ⟨x.a, x.u, []⟩ }).commit) := HR20.out.c rfl
        have f2 := HR20.out.f 8
        clear hS20
        refine heldOne 8 (by kernel_rfl) rfl (by rfl) ?_
        refine wp_store_cell 3 (.tmp 69) (.tmp 65) rfl p 8 (iz x.a) _ rfl rfl rfl (by kernel_rfl) p2 f2 ?_
        obtain ⟨w21, hw21⟩ : ∃ w21, w21 = w20.setCell ⟨p, 8, none⟩ (iz x.a) := ⟨_, rfl⟩
        obtain ⟨a21, b21⟩ := HR20.out.setCommit x.a
        rw [← hw21] at a21 b21 ⊢
        have HR21 := Lib.hid a21
        have HT21 := Lib.hid ((HT6.out.trans (.ofBelow hdr)).trans b21)
        have HBX21 := Lib.hid ((b21.block w.heap.size (by omega) HNW6.out).trans HBX20.out)
        have HX21 := Lib.hid (HX20.out.touch b21)
        have hs21 := b21.size
        clear hw21 a21 b21 p2 f2 hdr
        refine ⟨GvS.of HBX21.out, ?_⟩
        have hS21 : GvS w.heap.size x w21 := GvS.of HBX21.out
        refine heldTake 9 70 rfl rfl (by kernel_rfl) (by kernel_rfl) (by kernel_rfl) (fun _ _ _ h => h) hS21 (.inl ⟨by rfl, by intro w' hS; obtain ⟨s1, s2⟩ := hS; go_simp; (try rfl)⟩) ?_
        simp only [List.set_cons_zero, List.set_cons_succ]
        refine heldTake 10 71 rfl rfl (by kernel_rfl) (by kernel_rfl) (by kernel_rfl) (fun _ _ _ h => h) hS21 (.inl ⟨by rfl, by intro w' hS; obtain ⟨s1, s2⟩ := hS; go_simp; (try rfl)⟩) ?_
        simp only [List.set_cons_zero, List.set_cons_succ]
        clear hS21
        have p2 : w21.cell? ⟨p, 9, none⟩ = some (.int .i64 ({ S with line := ⟨x.a, x.u, []⟩ }).applied) := HR21.out.c rfl
        have f2 := HR21.out.f 9
        refine heldOne 11 (by kernel_rfl) rfl (by rfl) ?_
        refine wp_store_cell 3 (.tmp 71) (.tmp 67) rfl p 9 (iz x.a) _ rfl rfl rfl (by kernel_rfl) p2 f2 ?_
        obtain ⟨w22, hw22⟩ : ∃ w22, w22 = w21.setCell ⟨p, 9, none⟩ (iz x.a) := ⟨_, rfl⟩
        obtain ⟨a22, b22⟩ := HR21.out.setApplied x.a
        rw [← hw22] at a22 b22 ⊢
        have HR22 := Lib.hid a22
        have HT22 := Lib.hid (HT21.out.trans b22)
        have HBX22 := Lib.hid ((b22.block w.heap.size (by omega) HNW6.out).trans HBX21.out)
        have HX22 := Lib.hid (HX21.out.touch b22)
        have hs22 := b22.size
        clear hw22 a22 b22 p2 f2
        refine ⟨GvS.of HBX22.out, wpAnyH_done (by kernel_rfl) ?_ _⟩
        have l7 := (letCells HBX22.out).2.2.2.2.2.2.2
        go_wp2_with fail
        clear l7
        refine (cloneBy x.b ba bc _ HX22.out.la.b).mono ?_
        rintro e w23 ⟨sa, sc, rfl, hby, hb23⟩
        have HR23 := Lib.hid (HR22.out.below hb23)
        have HT23 := Lib.hid (HT22.out.trans (.ofBelow hb23))
        have HBX23 := Lib.hid ((hb23.block w.heap.size (by omega)).trans HBX22.out)
        have hs23 := hb23.size
        obtain ⟨a24, b24⟩ := HR23.out.setState hby
        obtain ⟨a25, b25⟩ := a24.setJumped true
        obtain ⟨w25, hw25⟩ : ∃ w25, w25 = (w23.setCell ⟨p, 5, none⟩ (.slice sa x.b.length sc)).setCell ⟨p, 32, none⟩ (.bool true) := ⟨_, rfl⟩
        rw [← hw25] at a25 b25
        have b245 := b24.trans b25
        have HR25 := Lib.hid a25
        have HT25 := Lib.hid (HT23.out.trans b245)
        have HBX25 := Lib.hid ((b245.block w.heap.size (by omega) HNW6.out).trans HBX23.out)
        have hw25' := hw25
        have HW25 := Lib.hid hw25
        have c5 : w23.cell? ⟨p, 5, none⟩ = some (.slice (M6).sa ({ S with line := ⟨x.a, x.u, []⟩ }).state.length (M6).sc) := HR23.out.c rfl
        have f5 := HR23.out.f 5
        have c32 := HR23.out.tails.1
        have f32 := HR23.out.f 32
        have l2 := (letCells HBX25.out).2.2.1
        rw [hw25] at l2
        clear hb23 hby a24 b24 a25 b25 b245 hw25 hw25'
        go_wp2_with fail
        rw [← HW25.out]
        clear c5 f5 c32 f32 l2
        refine (raftPost0 p { { S with line := ⟨x.a, x.u, []⟩ } with commit := x.a, applied := x.a, state := x.b, jumped := true } { M6 with sa := sa, sc := sc } f ⟨4, 0, x.a, 0, x.a, true, [], []⟩ rfl rfl (by show S.out.length ≤ _; have := HGS.out.2; omega) _ HR25.out).mono ?_
        rintro e w26 ⟨rfl, M26, hr26, ht26⟩
        have HR26 := Lib.hid hr26
        have HT26 := Lib.hid (HT25.out.trans ht26)
        clear hr26 ht26
        go_wp2
        go_end0
        exact ⟨rfl, M26, by rw [HFF.out, HLN.out]; exact HR26.out, HT26.out⟩
        | false =>
        go_wp2_with fail
        clear l3 l2
        refine (lineNew_yes x.a x.u (by rw [isNew_iff]; omega) _).mono ?_
        rintro e w5 ⟨rfl, hln5, hb5, hs5⟩
        have HLN5 := Lib.hid hln5
        obtain ⟨a6, b6⟩ := HR4.out.relined hb5 hln5 (Nat.le_refl _)
        obtain ⟨M6, hM6⟩ : ∃ M6 : RMem, M6 = { M1 with lb := w4.heap.size, la := none, lc := 0, ms := [] } := ⟨_, rfl⟩
        obtain ⟨w6, hw6⟩ : ∃ w6, w6 = w5.setCell ⟨p, 4, none⟩ (.pointer (some ⟨w4.heap.size, 0, none⟩)) := ⟨_, rfl⟩
        rw [← hM6, ← hw6] at a6 b6
        have HR6 := Lib.hid a6
        have HT6 := Lib.hid (HT4.out.trans b6)
        have HBX6 := Lib.hid ((b6.block w.heap.size (by omega) HNW1.out).trans HBX4.out)
        have HX6 := Lib.hid (HX4.out.touch b6)
        have HNW6 := Lib.hid (show ¬ M6.own p w.heap.size from fun h9 => by
          rcases b6.fresh _ h9 with h8 | h8
          · exact HNW1.out h8
          · omega)
        have hs6 := b6.size
        have hltW : w.heap.size < w6.heap.size := by omega
        have HW6 := Lib.hid hw6
        have hpl := HR4.out.lt
        have c4' : w5.cell? ⟨p, 4, none⟩ = some (.pointer (some ⟨M1.lb, 0, none⟩)) := (hb5.cell (p := ⟨p, 4, none⟩) hpl).trans c4
        have f4' : w5.frozen? ⟨p, 4, none⟩ = false := (hb5.frozen (p := ⟨p, 4, none⟩) hpl).trans f4
        clear c4 f4 hM6 a6 b6 hw6 hln5
        go_wp2_with fail
        rw [← HW6.out]
        clear c4' f4' hb5
        refine wp_region_any (by kernel_rfl) ?_
        refine wpAny_of_held (S := GvS w.heap.size x) _ _ _ _ ?_
        obtain ⟨w20, hw20⟩ : ∃ w20, w20 = w6.drew := ⟨_, rfl⟩
        have hdr : Below w6.heap.size w6 w20 := by rw [hw20]; exact (Below.refl _ _).drew
        (refine (show wpAnyH _ _ _ _ _ _ _ _ w6.drew from ?_))
        rw [← hw20]
        clear hw20
        have HR20 := Lib.hid (HR6.out.below hdr)
        have HBX20 := Lib.hid ((hdr.block w.heap.size hltW).trans HBX6.out)
        have HX20 := Lib.hid (HX6.out.below hdr)
        have hs20 := hdr.size
        have hS20 : GvS w.heap.size x w20 := GvS.of HBX20.out
        refine heldTake 0 62 rfl rfl (by kernel_rfl) (by kernel_rfl) (by kernel_rfl) (fun _ _ _ h => h) hS20 (.inl ⟨by rfl, by intro w' hS; obtain ⟨s1, s2⟩ := hS; go_simp; (try rfl)⟩) ?_
        simp only [List.set_cons_zero, List.set_cons_succ]
        refine heldTake 1 63 rfl rfl (by kernel_rfl) (by kernel_rfl) (by kernel_rfl) (fun _ _ _ h => h) hS20 (.inl ⟨by rfl, by intro w' hS; obtain ⟨s1, s2⟩ := hS; go_simp; (try rfl)⟩) ?_
        simp only [List.set_cons_zero, List.set_cons_succ]
        refine heldTake 2 64 rfl rfl (by kernel_rfl) (by kernel_rfl) (by kernel_rfl) (fun _ _ _ h => h) hS20 (.inl ⟨by rfl, by intro w' hS; obtain ⟨s1, s2⟩ := hS; go_simp; (try rfl)⟩) ?_
        simp only [List.set_cons_zero, List.set_cons_succ]
        refine heldTake 4 66 rfl rfl (by kernel_rfl) (by kernel_rfl) (by kernel_rfl) (fun _ _ _ h => h) hS20 (.inl ⟨by rfl, by intro w' hS; obtain ⟨s1, s2⟩ := hS; go_simp; (try rfl)⟩) ?_
        simp only [List.set_cons_zero, List.set_cons_succ]
        refine heldTake 3 65 rfl rfl (by kernel_rfl) (by kernel_rfl) (by kernel_rfl) (fun _ _ _ h => h) hS20 (.inl ⟨by rfl, by intro w' hS; obtain ⟨s1, s2⟩ := hS; go_simp; (try rfl)⟩) ?_
        simp only [List.set_cons_zero, List.set_cons_succ]
        refine heldTake 5 67 rfl rfl (by kernel_rfl) (by kernel_rfl) (by kernel_rfl) (fun _ _ _ h => h) hS20 (.inl ⟨by rfl, by intro w' hS; obtain ⟨s1, s2⟩ := hS; go_simp; (try rfl)⟩) ?_
        simp only [List.set_cons_zero, List.set_cons_succ]
        refine heldTake 6 68 rfl rfl (by kernel_rfl) (by kernel_rfl) (by kernel_rfl) (fun _ _ _ h => h) hS20 (.inl ⟨by rfl, by intro w' hS; obtain ⟨s1, s2⟩ := hS; go_simp; (try rfl)⟩) ?_
        simp only [List.set_cons_zero, List.set_cons_succ]
        refine heldTake 7 69 rfl rfl (by kernel_rfl) (by kernel_rfl) (by kernel_rfl) (fun _ _ _ h => h) hS20 (.inl ⟨by rfl, by intro w' hS; obtain ⟨s1, s2⟩ := hS; go_simp; (try rfl)⟩) ?_
        simp only [List.set_cons_zero, List.set_cons_succ]
        have p2 : w20.cell? ⟨p, 8, none⟩ = some (.int .i64 ({ S with line := ⟨x.a, x.u, []⟩ }).commit) := HR20.out.c rfl
        have f2 := HR20.out.f 8
        clear hS20
        refine heldOne 8 (by kernel_rfl) rfl (by rfl) ?_
        refine wp_store_cell 3 (.tmp 69) (.tmp 65) rfl p 8 (iz x.a) _ rfl rfl rfl (by kernel_rfl) p2 f2 ?_
        obtain ⟨w21, hw21⟩ : ∃ w21, w21 = w20.setCell ⟨p, 8, none⟩ (iz x.a) := ⟨_, rfl⟩
        obtain ⟨a21, b21⟩ := HR20.out.setCommit x.a
        rw [← hw21] at a21 b21 ⊢
        have HR21 := Lib.hid a21
        have HT21 := Lib.hid ((HT6.out.trans (.ofBelow hdr)).trans b21)
        have HBX21 := Lib.hid ((b21.block w.heap.size (by omega) HNW6.out).trans HBX20.out)
        have HX21 := Lib.hid (HX20.out.touch b21)
        have hs21 := b21.size
        clear hw21 a21 b21 p2 f2 hdr
        refine ⟨GvS.of HBX21.out, ?_⟩
        have hS21 : GvS w.heap.size x w21 := GvS.of HBX21.out
        refine heldTake 9 70 rfl rfl (by kernel_rfl) (by kernel_rfl) (by kernel_rfl) (fun _ _ _ h => h) hS21 (.inl ⟨by rfl, by intro w' hS; obtain ⟨s1, s2⟩ := hS; go_simp; (try rfl)⟩) ?_
        simp only [List.set_cons_zero, List.set_cons_succ]
        refine heldTake 10 71 rfl rfl (by kernel_rfl) (by kernel_rfl) (by kernel_rfl) (fun _ _ _ h => h) hS21 (.inl ⟨by rfl, by intro w' hS; obtain ⟨s1, s2⟩ := hS; go_simp; (try rfl)⟩) ?_
        simp only [List.set_cons_zero, List.set_cons_succ]
        clear hS21
        have p2 : w21.cell? ⟨p, 9, none⟩ = some (.int .i64 ({ S with line := ⟨x.a, x.u, []⟩ }).applied) := HR21.out.c rfl
        have f2 := HR21.out.f 9
        refine heldOne 11 (by kernel_rfl) rfl (by rfl) ?_
        refine wp_store_cell 3 (.tmp 71) (.tmp 67) rfl p 9 (iz x.a) _ rfl rfl rfl (by kernel_rfl) p2 f2 ?_
        obtain ⟨w22, hw22⟩ : ∃ w22, w22 = w21.setCell ⟨p, 9, none⟩ (iz x.a) := ⟨_, rfl⟩
        obtain ⟨a22, b22⟩ := HR21.out.setApplied x.a
        rw [← hw22] at a22 b22 ⊢
        have HR22 := Lib.hid a22
        have HT22 := Lib.hid (HT21.out.trans b22)
        have HBX22 := Lib.hid ((b22.block w.heap.size (by omega) HNW6.out).trans HBX21.out)
        have HX22 := Lib.hid (HX21.out.touch b22)
        have hs22 := b22.size
        clear hw22 a22 b22 p2 f2
        refine ⟨GvS.of HBX22.out, wpAnyH_done (by kernel_rfl) ?_ _⟩
        have l7 := (letCells HBX22.out).2.2.2.2.2.2.2
        go_wp2_with fail
        clear l7
        refine (cloneBy x.b ba bc _ HX22.out.la.b).mono ?_
        rintro e w23 ⟨sa, sc, rfl, hby, hb23⟩
        have HR23 := Lib.hid (HR22.out.below hb23)
        have HT23 := Lib.hid (HT22.out.trans (.ofBelow hb23))
        have HBX23 := Lib.hid ((hb23.block w.heap.size (by omega)).trans HBX22.out)
        have hs23 := hb23.size
        obtain ⟨a24, b24⟩ := HR23.out.setState hby
        obtain ⟨a25, b25⟩ := a24.setJumped true
        obtain ⟨w25, hw25⟩ : ∃ w25, w25 = (w23.setCell ⟨p, 5, none⟩ (.slice sa x.b.length sc)).setCell ⟨p, 32, none⟩ (.bool true) := ⟨_, rfl⟩
        rw [← hw25] at a25 b25
        have b245 := b24.trans b25
        have HR25 := Lib.hid a25
        have HT25 := Lib.hid (HT23.out.trans b245)
        have HBX25 := Lib.hid ((b245.block w.heap.size (by omega) HNW6.out).trans HBX23.out)
        have hw25' := hw25
        have HW25 := Lib.hid hw25
        have c5 : w23.cell? ⟨p, 5, none⟩ = some (.slice (M6).sa ({ S with line := ⟨x.a, x.u, []⟩ }).state.length (M6).sc) := HR23.out.c rfl
        have f5 := HR23.out.f 5
        have c32 := HR23.out.tails.1
        have f32 := HR23.out.f 32
        have l2 := (letCells HBX25.out).2.2.1
        rw [hw25] at l2
        clear hb23 hby a24 b24 a25 b25 b245 hw25 hw25'
        go_wp2_with fail
        rw [← HW25.out]
        clear c5 f5 c32 f32 l2
        refine (raftPost0 p { { S with line := ⟨x.a, x.u, []⟩ } with commit := x.a, applied := x.a, state := x.b, jumped := true } { M6 with sa := sa, sc := sc } f ⟨4, 0, x.a, 0, x.a, true, [], []⟩ rfl rfl (by show S.out.length ≤ _; have := HGS.out.2; omega) _ HR25.out).mono ?_
        rintro e w26 ⟨rfl, M26, hr26, ht26⟩
        have HR26 := Lib.hid hr26
        have HT26 := Lib.hid (HT25.out.trans ht26)
        clear hr26 ht26
        go_wp2
        go_end0
        exact ⟨rfl, M26, by rw [HFF.out, HLN.out]; exact HR26.out, HT26.out⟩
end
end Go.Proofs.YtogcnfhmcpkdcaaGreat

namespace Go.Proofs.YtogcnfhmcpkdcaaGreat
open Go.RowKit
set_option linter.unusedVariables false
set_option linter.unusedSimpArgs false

section
/-- what the drawn regions of Handle read -/
structure HdlS (g : Nat) (x : PLet) (W : World) : Prop where
  l1 : W.cell? ⟨g, 1, none⟩ = some (.int .i64 x.t)

set_option maxRecDepth 100000 in
set_option maxHeartbeats 2000000 in
theorem raftHandle (p : Nat) (R : PRaft) (M : RMem) (f : Int) (x : PLet) (ia : Option Addr) (ic : Nat) (ms : List MItem) (ba : Option Addr) (bc : Nat) (hok : R.Ok) (hml : ms.length ≤ 100000) (hnw : R.news.length ≤ 999980000) (ho : R.out.length ≤ 999998000) (w : World) (h : RfAt w p R M) (hx : LetFar w p M x ia ic ms ba bc) :
    Calls Tryz.prog 12 #[.pointer (some ⟨p, 0, none⟩), .int .i64 f, .agg (lcell x ia ms.length ic ba bc)] w fun e w' => e = .returned (.tuple #[]) ∧ ∃ M', RfAt w' p (R.handle f x) M' ∧ RTouch p M M' w w' := by
  obtain ⟨V, hV, hbV, hsV, hrV⟩ := letBox w x ia ms.length ic ba bc
  have hrf := h.below hbV
  have c0 : (w.alloc (.cells (lcell x ia ms.length ic ba bc) 32)).cell? ⟨p, 0, none⟩ = some (.int .i64 R.me) := by rw [← hV]; exact hrf.c rfl
  have c1 : (w.alloc (.cells (lcell x ia ms.length ic ba bc) 32)).cell? ⟨p, 1, none⟩ = some (.int .i64 R.n) := by rw [← hV]; exact hrf.c rfl
  obtain ⟨l0, l1, l2, l3, l4, l5, l6, l7⟩ := letCells hrV
  rw [hV] at l0 l1 l2 l3 l4 l5 l6 l7
  have HR := Lib.hid hrf
  have HB := Lib.hid hbV
  have HV := Lib.hid hV
  have HBX := Lib.hid hrV
  have HNW := Lib.hid (h.notNew (Nat.le_refl w.heap.size))
  have HX := Lib.hid (hx.below hbV)
  have HOK := Lib.hid hok
  have hm0 := hok.me0
  have hmn := hok.men
  have hn7 := hok.n7
  clear hrf hbV hV hrV h hok hx
  by_cases h1 : f < 0
  · have t1 : decide (f < 0) = true := decide_eq_true h1
    have HFIN := Lib.hid (show R.handle f x = R by unfold PRaft.handle; rw [if_pos (.inl h1)])
    clear h1
    go_enter Tryz.func12, Tryz.ntmps12
    go_wp2_with fail
    rw [← HV.out]
    refine bodyPost_ret (results_none rfl _ _ _) rfl ?_
    exact ⟨rfl, M, by rw [HFIN.out]; exact HR.out, .ofBelow HB.out⟩
  have t1 : decide (f < 0) = false := decide_eq_false h1
  by_cases h2 : R.n ≤ f
  · have t2 : decide (R.n ≤ f) = true := decide_eq_true h2
    have HFIN := Lib.hid (show R.handle f x = R by unfold PRaft.handle; rw [if_pos (.inr (.inl h2))])
    clear h2
    go_enter Tryz.func12, Tryz.ntmps12
    go_wp2_with fail
    rw [← HV.out]
    refine bodyPost_ret (results_none rfl _ _ _) rfl ?_
    exact ⟨rfl, M, by rw [HFIN.out]; exact HR.out, .ofBelow HB.out⟩
  have t2 : decide (R.n ≤ f) = false := decide_eq_false h2
  by_cases h3 : f = R.me
  · have t3 : (f == R.me) = true := by simpa using h3
    have HFIN := Lib.hid (show R.handle f x = R by unfold PRaft.handle; rw [if_pos (.inr (.inr (.inl h3)))])
    clear h3
    go_enter Tryz.func12, Tryz.ntmps12
    go_wp2_with fail
    rw [← HV.out]
    refine bodyPost_ret (results_none rfl _ _ _) rfl ?_
    exact ⟨rfl, M, by rw [HFIN.out]; exact HR.out, .ofBelow HB.out⟩
  have t3 : (f == R.me) = false := by simpa using h3
  obtain ⟨fn, hfe⟩ : ∃ fn : Nat, f = fn := ⟨f.toNat, by omega⟩
  have hf7 : fn < 7 := by omega
  have hfn : (fn : Int) < R.n := by omega
  subst hfe
  have HNE := Lib.hid (show ¬ ((fn : Int) < 0 ∨ R.n ≤ fn ∨ (fn : Int) = R.me) from fun h9 => by rcases h9 with h9 | h9 | h9 <;> omega)
  clear h1 h2 h3
  go_enter Tryz.func12, Tryz.ntmps12
  go_wp2_with fail
  rw [← HV.out]
  clear c0 c1 l0 l1 l2 l3 l4 l5 l6 l7 t1 t2 t3
  refine (letterRight x ia ic ms ba bc hml _ HX.out.la).mono ?_
  rintro e w1 ⟨rfl, hb1⟩
  have HR1 := Lib.hid (HR.out.below hb1)
  have HX1 := Lib.hid (HX.out.below hb1)
  have HBX1 := Lib.hid ((hb1.block w.heap.size (by omega)).trans HBX.out)
  have HT1 := Lib.hid (show RTouch p M M w w1 from (RTouch.ofBelow HB.out).trans (.ofBelow hb1))
  have hs1 := hb1.size
  clear hb1
  cases hr : rightL x with
  | false =>
    have HFIN := Lib.hid (show R.handle fn x = R by unfold PRaft.handle; rw [if_pos (.inr (.inr (.inr hr)))])
    clear hr
    go_wp2
    refine bodyPost_ret (results_none rfl _ _ _) rfl ?_
    exact ⟨rfl, M, by rw [HFIN.out]; exact HR1.out, HT1.out⟩
  | true =>
    obtain ⟨⟨hk1, hk5⟩, ⟨ht0, htm⟩, -⟩ := right_places hr
    have HH := Lib.hid (show R.handle fn x = (R.stepUp x.t).heard fn x by
      unfold PRaft.handle
      rw [if_neg (fun h9 => by
        rcases h9 with h9 | h9 | h9 | h9
        · exact HNE.out (.inl h9)
        · exact HNE.out (.inr (.inl h9))
        · exact HNE.out (.inr (.inr h9))
        · rw [hr] at h9; cases h9)])
    have c2 : w1.cell? ⟨p, 2, none⟩ = some (.int .i64 R.bt) := HR1.out.c rfl
    have l1 := (letCells HBX1.out).2.1
    by_cases hst : R.bt < x.t
    · have t4 : decide (R.bt < x.t) = true := decide_eq_true hst
      obtain ⟨R2, hR2⟩ : ∃ R2 : PRaft, R2 = { R with bt := x.t, bf := -1 } := ⟨_, rfl⟩
      obtain ⟨R3, hR3⟩ : ∃ R3 : PRaft, R3 = { R2.noteBallot with role := 0, lead := -1 } := ⟨_, rfl⟩
      have HST := Lib.hid (show R.stepUp x.t = R3 by unfold PRaft.stepUp; rw [if_pos hst, hR3, hR2])
      have HOKS := Lib.hid (show R3.Ok by rw [← HST.out]; exact ok_stepUp HOK.out htm)
      have HSN := Lib.hid (show R3.n = R.n by rw [← HST.out]; exact (stepUp_eq R x.t).1)
      have HGS := Lib.hid (show R3.news.length ≤ 999980001 ∧ R3.out.length ≤ 999998000 by
        have h9 := grows_stepUp R x.t
        rw [HST.out] at h9
        exact ⟨by have := h9.1; omega, by have := h9.2.1; omega⟩)
      have HR2 := Lib.hid (show R2.bt = x.t ∧ R2.bf = -1 ∧ R2.news = R.news by rw [hR2]; exact ⟨rfl, rfl, rfl⟩)
      have HST2 := Lib.hid (show stepT R.bt x.t = x.t ∧ stepF R.bt R.bf x.t = -1 by unfold stepT stepF; rw [if_pos hst, if_pos hst]; exact ⟨rfl, rfl⟩)
      clear hst
      go_wp2_with fail
      go_quiet (fail)
      go_wp2_with fail
      obtain ⟨w2, hw2⟩ : ∃ w2, w2 = w1.drewN nq := ⟨_, rfl⟩
      rw [← hw2]
      have hb2 : Below w1.heap.size w1 w2 := by rw [hw2]; exact below_drewN w1 nq
      have HRw2 := Lib.hid (HR1.out.below hb2)
      have HBX2 := Lib.hid ((hb2.block w.heap.size (by omega)).trans HBX1.out)
      have HX2 := Lib.hid (HX1.out.below hb2)
      have HT2 := Lib.hid (HT1.out.trans (.ofBelow hb2))
      have hs2 := hb2.size
      clear hw2 hb2 c2 l1
      refine wp_region_any (by kernel_rfl) ?_
      refine wpAny_of_held (S := HdlS w.heap.size x) _ _ _ _ ?_
      obtain ⟨w3, hw3⟩ : ∃ w3, w3 = w2.drew := ⟨_, rfl⟩
      have hdr : Below w2.heap.size w2 w3 := by rw [hw3]; exact (Below.refl _ _).drew
      (refine (show wpAnyH _ _ _ _ _ _ _ _ w2.drew from ?_))
      rw [← hw3]
      clear hw3
      have HRw3 := Lib.hid (HRw2.out.below hdr)
      have HBX3 := Lib.hid ((hdr.block w.heap.size (by omega)).trans HBX2.out)
      have HX3 := Lib.hid (HX2.out.below hdr)
      have HT3 := Lib.hid (HT2.out.trans (.ofBelow hdr))
      have hs3 := hdr.size
      have hS3 : HdlS w.heap.size x w3 := ⟨(letCells HBX3.out).2.1⟩
      refine heldTake 0 37 rfl rfl (by kernel_rfl) (by kernel_rfl) (by kernel_rfl) (fun _ _ _ h => h) hS3 (.inl ⟨by rfl, by intro w' hS; obtain ⟨s1⟩ := hS; go_simp; (try rfl)⟩) ?_
      simp only [List.set_cons_zero, List.set_cons_succ]
      refine heldTake 1 38 rfl rfl (by kernel_rfl) (by kernel_rfl) (by kernel_rfl) (fun _ _ _ h => h) hS3 (.inl ⟨by rfl, by intro w' hS; obtain ⟨s1⟩ := hS; go_simp; (try rfl)⟩) ?_
      simp only [List.set_cons_zero, List.set_cons_succ]
      refine heldTake 5 42 rfl rfl (by kernel_rfl) (by kernel_rfl) (by kernel_rfl) (fun _ _ _ h => h) hS3 (.inl ⟨by rfl, by intro w' hS; obtain ⟨s1⟩ := hS; go_simp; (try rfl)⟩) ?_
      simp only [List.set_cons_zero, List.set_cons_succ]
      refine heldTake 2 39 rfl rfl (by kernel_rfl) (by kernel_rfl) (by kernel_rfl) (fun _ _ _ h => h) hS3 (.inl ⟨by rfl, by intro w' hS; obtain ⟨s1⟩ := hS; go_simp; (try rfl)⟩) ?_
      simp only [List.set_cons_zero, List.set_cons_succ]
      refine heldTake 6 43 rfl rfl (by kernel_rfl) (by kernel_rfl) (by kernel_rfl) (fun _ _ _ h => h) hS3 (.inl ⟨by rfl, by intro w' hS; obtain ⟨s1⟩ := hS; go_simp; (try rfl)⟩) ?_
      simp only [List.set_cons_zero, List.set_cons_succ]
      refine heldTake 3 40 rfl rfl (by kernel_rfl) (by kernel_rfl) (by kernel_rfl) (fun _ _ _ h => h) hS3 (.inl ⟨by rfl, by intro w' hS; obtain ⟨s1⟩ := hS; go_simp; (try rfl)⟩) ?_
      simp only [List.set_cons_zero, List.set_cons_succ]
      have HS3 := Lib.hid hS3
      clear hS3 hdr
      have c2 : w3.cell? ⟨p, 2, none⟩ = some (.int .i64 R.bt) := HRw3.out.c rfl
      have c3 : w3.cell? ⟨p, 3, none⟩ = some (.int .i64 R.bf) := HRw3.out.c rfl
      refine heldOne 4 (by kernel_rfl) rfl (by rfl) ?_
      go_simp
      refine ⟨HS3.out, ?_⟩
      clear c2 c3
      refine heldOne 7 (by kernel_rfl) rfl (by rfl) ?_
      go_simp
      refine (voteStep_calls R.bt R.bf x.t _).mono ?_
      rintro e w4 ⟨rfl, hb4⟩
      rw [HST2.out.1, HST2.out.2]
      have HRw4 := Lib.hid (HRw3.out.below hb4)
      have HBX4 := Lib.hid ((hb4.block w.heap.size (by omega)).trans HBX3.out)
      have HX4 := Lib.hid (HX3.out.below hb4)
      have HT4 := Lib.hid (HT3.out.trans (.ofBelow hb4))
      have hs4 := hb4.size
      have hS4 : HdlS w.heap.size x w4 := ⟨(letCells HBX4.out).2.1⟩
      clear hb4
      refine ⟨hS4, ?_⟩
      refine heldTake 8 45 rfl rfl (by kernel_rfl) (by kernel_rfl) (by kernel_rfl) (fun _ _ _ h => h) hS4 (.inl ⟨by rfl, by intro w' hS; obtain ⟨s1⟩ := hS; go_simp; (try rfl)⟩) ?_
      simp only [List.set_cons_zero, List.set_cons_succ]
      refine heldTake 9 46 rfl rfl (by kernel_rfl) (by kernel_rfl) (by kernel_rfl) (fun _ _ _ h => h) hS4 (.inl ⟨by rfl, by intro w' hS; obtain ⟨s1⟩ := hS; go_simp; (try rfl)⟩) ?_
      simp only [List.set_cons_zero, List.set_cons_succ]
      clear hS4
      have c2 : w4.cell? ⟨p, 2, none⟩ = some (.int .i64 R.bt) := HRw4.out.c rfl
      have c3 : w4.cell? ⟨p, 3, none⟩ = some (.int .i64 R.bf) := HRw4.out.c rfl
      have f2 := HRw4.out.f 2
      have f3 := HRw4.out.f 3
      obtain ⟨a5, b5⟩ := HRw4.out.setBallot x.t (-1)
      obtain ⟨w5, hw5⟩ : ∃ w5, w5 = (w4.setCell ⟨p, 2, none⟩ (.int .i64 x.t)).setCell ⟨p, 3, none⟩ (.int .i64 (-1)) := ⟨_, rfl⟩
      rw [show iz x.t = .int .i64 x.t from rfl, show iz (-1) = .int .i64 (-1) from rfl, ← hw5] at a5 b5
      rw [← hR2] at a5
      have HW5 := Lib.hid hw5
      have HRw5 := Lib.hid a5
      have HBX5 := Lib.hid ((b5.block w.heap.size (by omega) HNW.out).trans HBX4.out)
      have HX5 := Lib.hid (HX4.out.touch b5)
      have HT5 := Lib.hid (HT4.out.trans b5)
      have hs5 := b5.size
      clear hw5 a5 b5 hR2
      refine heldOne 10 (by kernel_rfl) rfl (by rfl) ?_
      go_simp
      rw [← HW5.out]
      clear c2 c3 f2 f3
      refine ⟨⟨(letCells HBX5.out).2.1⟩, wpAnyH_done (by kernel_rfl) ?_ _⟩
      go_wp2_with fail
      refine (raftNoteBallot p R2 M (by rw [HR2.out.1]; exact ht0) (by rw [HR2.out.1]; exact htm) (by rw [HR2.out.2.1]; omega) (by rw [HR2.out.2.1]; omega) (by rw [HR2.out.2.2]; omega) _ HRw5.out).mono ?_
      rintro e w6 ⟨rfl, M6, hr6, ht6⟩
      have HBX6 := Lib.hid ((ht6.block w.heap.size (by omega) HNW.out).trans HBX5.out)
      have HNW6 := Lib.hid (show ¬ M6.own p w.heap.size from fun h9 => by
        rcases ht6.fresh _ h9 with h8 | h8
        · exact HNW.out h8
        · omega)
      have HX6 := Lib.hid (HX5.out.touch ht6)
      have hs6 := ht6.size
      obtain ⟨a7, b7⟩ := hr6.setRole 0
      obtain ⟨a8, b8⟩ := a7.setLead (-1)
      obtain ⟨w8, hw8⟩ : ∃ w8, w8 = (w6.setCell ⟨p, 6, none⟩ (iz 0)).setCell ⟨p, 7, none⟩ (iz (-1)) := ⟨_, rfl⟩
      rw [← hw8] at a8 b8
      have b78 := b7.trans b8
      have HRw8 := Lib.hid (show RfAt w8 p R3 M6 by rw [hR3]; exact a8)
      have HBX8 := Lib.hid ((b78.block w.heap.size (by omega) HNW6.out).trans HBX6.out)
      have HX8 := Lib.hid (HX6.out.touch b78)
      have HT8 := Lib.hid ((HT5.out.trans ht6).trans b78)
      have HW8 := Lib.hid hw8
      have c6 : w6.cell? ⟨p, 6, none⟩ = some (.int .i64 R2.noteBallot.role) := hr6.c rfl
      have c7 : w6.cell? ⟨p, 7, none⟩ = some (.int .i64 R2.noteBallot.lead) := hr6.c rfl
      have f6 := hr6.f 6
      have f7 := hr6.f 7
      obtain ⟨l0, l1, l2, l3, l4, l5, l6, l7⟩ := letCells HBX8.out
      rw [hw8] at l0 l1 l2 l3 l4 l5 l6 l7
      clear hr6 ht6 a7 b7 a8 b8 b78 hw8 hR3 HT5
      have HT5 := HT8
      rcases (show x.k = 1 ∨ x.k = 2 ∨ x.k = 3 ∨ x.k = 4 ∨ x.k = 5 by omega) with hk | hk | hk | hk | hk
      · have HFIN := Lib.hid (show R.handle fn x = (R3).asked fn x by rw [HH.out, HST.out]; unfold PRaft.heard; rw [if_pos hk])
        have t1 : (x.k == 1) = true := by rw [hk]; rfl
        clear hk hk1 hk5
        go_wp2_with fail
        rw [← HW8.out]
        clear c6 c7 f6 f7 l0 l1 l2 l3 l4 l5 l6 l7
        refine (raftAsked p (R3) M6 fn x ia ms.length ic ba bc HOKS.out.bt0 HOKS.out.bt1 HOKS.out.bf0 HOKS.out.bf1 HOKS.out.line (by have := HGS.out.1; omega) (by have := HGS.out.2; omega) _ HRw8.out).mono ?_
        rintro e w9 ⟨rfl, M9, hr9, ht9⟩
        have HR9 := Lib.hid hr9
        have HT9 := Lib.hid (HT5.out.trans ht9)
        clear hr9 ht9
        go_wp2
        go_end0
        exact ⟨rfl, M9, by rw [HFIN.out]; exact HR9.out, HT9.out⟩
      · have HFIN := Lib.hid (show R.handle fn x = (R3).said fn x by rw [HH.out, HST.out]; unfold PRaft.heard; rw [if_neg (by omega)]; rw [if_pos hk])
        have t1 : (x.k == 1) = false := by rw [hk]; rfl
        have t2 : (x.k == 2) = true := by rw [hk]; rfl
        clear hk hk1 hk5
        go_wp2_with fail
        rw [← HW8.out]
        clear c6 c7 f6 f7 l0 l1 l2 l3 l4 l5 l6 l7
        refine (raftSaid p (R3) M6 fn hf7 x ia ms.length ic ba bc HOKS.out.n1 HOKS.out.n7 HOKS.out.me0 HOKS.out.men HOKS.out.line HOKS.out.vs (by have := HGS.out.1; omega) (by have := HGS.out.2; omega) _ HRw8.out).mono ?_
        rintro e w9 ⟨rfl, M9, hr9, ht9⟩
        have HR9 := Lib.hid hr9
        have HT9 := Lib.hid (HT5.out.trans ht9)
        clear hr9 ht9
        go_wp2
        go_end0
        exact ⟨rfl, M9, by rw [HFIN.out]; exact HR9.out, HT9.out⟩
      · have HFIN := Lib.hid (show R.handle fn x = (R3).sent fn x by rw [HH.out, HST.out]; unfold PRaft.heard; rw [if_neg (by omega)]; rw [if_neg (by omega)]; rw [if_pos hk])
        have t1 : (x.k == 1) = false := by rw [hk]; rfl
        have t2 : (x.k == 2) = false := by rw [hk]; rfl
        have t3 : (x.k == 3) = true := by rw [hk]; rfl
        clear hk hk1 hk5
        go_wp2_with fail
        rw [← HW8.out]
        clear c6 c7 f6 f7 l0 l1 l2 l3 l4 l5 l6 l7
        refine (raftSent p (R3) M6 fn x ia ic ms ba bc HOKS.out hr (by have := HGS.out.1; omega) (by have := HGS.out.2; omega) _ HRw8.out HX8.out).mono ?_
        rintro e w9 ⟨rfl, M9, hr9, ht9⟩
        have HR9 := Lib.hid hr9
        have HT9 := Lib.hid (HT5.out.trans ht9)
        clear hr9 ht9
        go_wp2
        go_end0
        exact ⟨rfl, M9, by rw [HFIN.out]; exact HR9.out, HT9.out⟩
      · have HFIN := Lib.hid (show R.handle fn x = (R3).got fn x by rw [HH.out, HST.out]; unfold PRaft.heard; rw [if_neg (by omega)]; rw [if_neg (by omega)]; rw [if_neg (by omega)]; rw [if_pos hk])
        have t1 : (x.k == 1) = false := by rw [hk]; rfl
        have t2 : (x.k == 2) = false := by rw [hk]; rfl
        have t3 : (x.k == 3) = false := by rw [hk]; rfl
        have t4 : (x.k == 4) = true := by rw [hk]; rfl
        clear hk hk1 hk5
        go_wp2_with fail
        rw [← HW8.out]
        clear c6 c7 f6 f7 l0 l1 l2 l3 l4 l5 l6 l7
        refine (raftGot p (R3) M6 fn x ia ms.length ic ba bc HOKS.out (by rw [HSN.out]; exact hfn) hr (by have := HGS.out.2; omega) _ HRw8.out).mono ?_
        rintro e w9 ⟨rfl, M9, hr9, ht9⟩
        have HR9 := Lib.hid hr9
        have HT9 := Lib.hid (HT5.out.trans ht9)
        clear hr9 ht9
        go_wp2
        go_end0
        exact ⟨rfl, M9, by rw [HFIN.out]; exact HR9.out, HT9.out⟩
      · have HFIN := Lib.hid (show R.handle fn x = (R3).given fn x by rw [HH.out, HST.out]; unfold PRaft.heard; rw [if_neg (by omega)]; rw [if_neg (by omega)]; rw [if_neg (by omega)]; rw [if_neg (by omega)]; rw [if_pos hk])
        have t1 : (x.k == 1) = false := by rw [hk]; rfl
        have t2 : (x.k == 2) = false := by rw [hk]; rfl
        have t3 : (x.k == 3) = false := by rw [hk]; rfl
        have t4 : (x.k == 4) = false := by rw [hk]; rfl
        have t5 : (x.k == 5) = true := by rw [hk]; rfl
        clear hk hk1 hk5
        go_wp2_with fail
        rw [← HW8.out]
        clear c6 c7 f6 f7 l0 l1 l2 l3 l4 l5 l6 l7
        refine (raftGiven p (R3) M6 fn x ia ic ms ba bc HOKS.out hr (by have := HGS.out.1; omega) (by have := HGS.out.2; omega) _ HRw8.out HX8.out).mono ?_
        rintro e w9 ⟨rfl, M9, hr9, ht9⟩
        have HR9 := Lib.hid hr9
        have HT9 := Lib.hid (HT5.out.trans ht9)
        clear hr9 ht9
        go_wp2
        go_end0
        exact ⟨rfl, M9, by rw [HFIN.out]; exact HR9.out, HT9.out⟩
    · have t4 : decide (R.bt < x.t) = false := decide_eq_false hst
      have HST := Lib.hid (show R.stepUp x.t = R by unfold PRaft.stepUp; rw [if_neg hst])
      have HOKS := HOK
      have HSN := Lib.hid (rfl : (0 : Nat) = 0)
      have HGS := Lib.hid (show R.news.length ≤ 999980001 ∧ R.out.length ≤ 999998000 by omega)
      clear hst
      go_wp2_with fail
      go_quiet (fail)
      obtain ⟨w2, hw2⟩ : ∃ w2, w2 = w1.drewN nq := ⟨_, rfl⟩
      have hb2 : Below w1.heap.size w1 w2 := by rw [hw2]; exact below_drewN w1 nq
      have HRw2 := Lib.hid (HR1.out.below hb2)
      have HBX2 := Lib.hid ((hb2.block w.heap.size (by omega)).trans HBX1.out)
      have HX2 := Lib.hid (HX1.out.below hb2)
      have HT2 := Lib.hid (HT1.out.trans (.ofBelow hb2))
      have hs2 := hb2.size
      have HW2 := Lib.hid hw2
      clear hw2 hb2 c2 l1
      obtain ⟨l0, l1, l2, l3, l4, l5, l6, l7⟩ := letCells HBX1.out
      have HT5 := HT2
      rcases (show x.k = 1 ∨ x.k = 2 ∨ x.k = 3 ∨ x.k = 4 ∨ x.k = 5 by omega) with hk | hk | hk | hk | hk
      · have HFIN := Lib.hid (show R.handle fn x = (R).asked fn x by rw [HH.out, HST.out]; unfold PRaft.heard; rw [if_pos hk])
        have t1 : (x.k == 1) = true := by rw [hk]; rfl
        clear hk hk1 hk5
        go_wp2_with fail
        rw [← HW2.out]
        clear l0 l1 l2 l3 l4 l5 l6 l7
        refine (raftAsked p (R) M fn x ia ms.length ic ba bc HOKS.out.bt0 HOKS.out.bt1 HOKS.out.bf0 HOKS.out.bf1 HOKS.out.line (by have := HGS.out.1; omega) (by have := HGS.out.2; omega) _ HRw2.out).mono ?_
        rintro e w9 ⟨rfl, M9, hr9, ht9⟩
        have HR9 := Lib.hid hr9
        have HT9 := Lib.hid (HT5.out.trans ht9)
        clear hr9 ht9
        go_wp2
        go_end0
        exact ⟨rfl, M9, by rw [HFIN.out]; exact HR9.out, HT9.out⟩
      · have HFIN := Lib.hid (show R.handle fn x = (R).said fn x by rw [HH.out, HST.out]; unfold PRaft.heard; rw [if_neg (by omega)]; rw [if_pos hk])
        have t1 : (x.k == 1) = false := by rw [hk]; rfl
        have t2 : (x.k == 2) = true := by rw [hk]; rfl
        clear hk hk1 hk5
        go_wp2_with fail
        rw [← HW2.out]
        clear l0 l1 l2 l3 l4 l5 l6 l7
        refine (raftSaid p (R) M fn hf7 x ia ms.length ic ba bc HOKS.out.n1 HOKS.out.n7 HOKS.out.me0 HOKS.out.men HOKS.out.line HOKS.out.vs (by have := HGS.out.1; omega) (by have := HGS.out.2; omega) _ HRw2.out).mono ?_
        rintro e w9 ⟨rfl, M9, hr9, ht9⟩
        have HR9 := Lib.hid hr9
        have HT9 := Lib.hid (HT5.out.trans ht9)
        clear hr9 ht9
        go_wp2
        go_end0
        exact ⟨rfl, M9, by rw [HFIN.out]; exact HR9.out, HT9.out⟩
      · have HFIN := Lib.hid (show R.handle fn x = (R).sent fn x by rw [HH.out, HST.out]; unfold PRaft.heard; rw [if_neg (by omega)]; rw [if_neg (by omega)]; rw [if_pos hk])
        have t1 : (x.k == 1) = false := by rw [hk]; rfl
        have t2 : (x.k == 2) = false := by rw [hk]; rfl
        have t3 : (x.k == 3) = true := by rw [hk]; rfl
        clear hk hk1 hk5
        go_wp2_with fail
        rw [← HW2.out]
        clear l0 l1 l2 l3 l4 l5 l6 l7
        refine (raftSent p (R) M fn x ia ic ms ba bc HOKS.out hr (by have := HGS.out.1; omega) (by have := HGS.out.2; omega) _ HRw2.out HX2.out).mono ?_
        rintro e w9 ⟨rfl, M9, hr9, ht9⟩
        have HR9 := Lib.hid hr9
        have HT9 := Lib.hid (HT5.out.trans ht9)
        clear hr9 ht9
        go_wp2
        go_end0
        exact ⟨rfl, M9, by rw [HFIN.out]; exact HR9.out, HT9.out⟩
      · have HFIN := Lib.hid (show R.handle fn x = (R).got fn x by rw [HH.out, HST.out]; unfold PRaft.heard; rw [if_neg (by omega)]; rw [if_neg (by omega)]; rw [if_neg (by omega)]; rw [if_pos hk])
        have t1 : (x.k == 1) = false := by rw [hk]; rfl
        have t2 : (x.k == 2) = false := by rw [hk]; rfl
        have t3 : (x.k == 3) = false := by rw [hk]; rfl
        have t4 : (x.k == 4) = true := by rw [hk]; rfl
        clear hk hk1 hk5
        go_wp2_with fail
        rw [← HW2.out]
        clear l0 l1 l2 l3 l4 l5 l6 l7
        refine (raftGot p (R) M fn x ia ms.length ic ba bc HOKS.out hfn hr (by have := HGS.out.2; omega) _ HRw2.out).mono ?_
        rintro e w9 ⟨rfl, M9, hr9, ht9⟩
        have HR9 := Lib.hid hr9
        have HT9 := Lib.hid (HT5.out.trans ht9)
        clear hr9 ht9
        go_wp2
        go_end0
        exact ⟨rfl, M9, by rw [HFIN.out]; exact HR9.out, HT9.out⟩
      · have HFIN := Lib.hid (show R.handle fn x = (R).given fn x by rw [HH.out, HST.out]; unfold PRaft.heard; rw [if_neg (by omega)]; rw [if_neg (by omega)]; rw [if_neg (by omega)]; rw [if_neg (by omega)]; rw [if_pos hk])
        have t1 : (x.k == 1) = false := by rw [hk]; rfl
        have t2 : (x.k == 2) = false := by rw [hk]; rfl
        have t3 : (x.k == 3) = false := by rw [hk]; rfl
        have t4 : (x.k == 4) = false := by rw [hk]; rfl
        have t5 : (x.k == 5) = true := by rw [hk]; rfl
        clear hk hk1 hk5
        go_wp2_with fail
        rw [← HW2.out]
        clear l0 l1 l2 l3 l4 l5 l6 l7
        refine (raftGiven p (R) M fn x ia ic ms ba bc HOKS.out hr (by have := HGS.out.1; omega) (by have := HGS.out.2; omega) _ HRw2.out HX2.out).mono ?_
        rintro e w9 ⟨rfl, M9, hr9, ht9⟩
        have HR9 := Lib.hid hr9
        have HT9 := Lib.hid (HT5.out.trans ht9)
        clear hr9 ht9
        go_wp2
        go_end0
        exact ⟨rfl, M9, by rw [HFIN.out]; exact HR9.out, HT9.out⟩
end
end Go.Proofs.YtogcnfhmcpkdcaaGreat
