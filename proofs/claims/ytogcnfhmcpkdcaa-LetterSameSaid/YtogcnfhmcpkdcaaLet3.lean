/-
  Contract of the reference's Same of letters.
-/
import Derived.Test.YtogcnfhmcpkdcaaLetM1
namespace Go.Proofs.Ytogcnfhmcpkdcaa
open Go.RowKit
set_option linter.unusedVariables false
set_option linter.unusedSimpArgs false

/-- what the loop's drawn region reads -/
structure LSS (g : Nat) (sl sl' : Value) (b o b' o' : Nat) (m m' : MItem) (W : World) : Prop where
  g0 : W.cell? ⟨g, 6, none⟩ = some sl
  g1 : W.cell? ⟨g + 1, 6, none⟩ = some sl'
  k0 : W.cell? ⟨b, o, none⟩ = some (.int .i64 m.t)
  k1 : W.cell? ⟨b, o + 1, none⟩ = some (.slice m.a m.b.length m.c)
  l0 : W.cell? ⟨b', o', none⟩ = some (.int .i64 m'.t)
  l1 : W.cell? ⟨b', o' + 1, none⟩ = some (.slice m'.a m'.b.length m'.c)
theorem LSS.keep {g : Nat} {sl sl' : Value} {b o b' o' : Nat} {m m' : MItem} {W W' : World} (h : LSS g sl sl' b o b' o' m m' W) {N : Nat} (hb : Below N W W') (h1 : g + 1 < N) (h2 : b < N) (h3 : b' < N) : LSS g sl sl' b o b' o' m m' W' :=
  ⟨(hb.cell (p := ⟨g, _, none⟩) (by show g < N; omega)).trans h.g0, (hb.cell (p := ⟨g + 1, _, none⟩) h1).trans h.g1, (hb.cell (p := ⟨b, _, none⟩) h2).trans h.k0, (hb.cell (p := ⟨b, _, none⟩) h2).trans h.k1, (hb.cell (p := ⟨b', _, none⟩) h3).trans h.l0, (hb.cell (p := ⟨b', _, none⟩) h3).trans h.l1⟩

set_option maxRecDepth 100000 in
set_option maxHeartbeats 2000000 in
theorem r15Same (x z : PLet) (ia ia' : Option Addr) (ic ic' : Nat) (ms ms' : List MItem) (ba ba' : Option Addr) (bc bc' : Nat) (hn : ms.length ≤ 1000000) (w : World) (h : LetAt w w.heap.size x ia ic ms ba bc) (h' : LetAt w w.heap.size z ia' ic' ms' ba' bc') :
    Calls Try.prog 76 #[.agg (lcell x ia ms.length ic ba bc), .agg (lcell z ia' ms'.length ic' ba' bc')] w fun e w' => e = .returned (.bool (sameL x z)) ∧ Below w.heap.size w w' := by
  obtain ⟨W1, hW1⟩ : ∃ W1, W1 = (w.alloc (.cells (lcell x ia ms.length ic ba bc) 111)).alloc (.cells (lcell z ia' ms'.length ic' ba' bc') 111) := ⟨_, rfl⟩
  have HW1 := Lib.hid hW1
  have hs1 : W1.heap.size = w.heap.size + 2 := by rw [hW1]; simp
  have hb1 : Below w.heap.size w W1 := by rw [hW1]; exact ((Below.refl _ _).alloc (Nat.le_refl _) _).alloc (by simp) _
  have HR0 := Lib.hid (show W1.heap[w.heap.size]? = some (.cells (lcell x ia ms.length ic ba bc) 111 (0, 0)) by
    rw [hW1]
    exact (((Below.refl _ _).alloc (Nat.le_refl (w.alloc (.cells (lcell x ia ms.length ic ba bc) 111)).heap.size) _).block _ (by simp)).trans (heap_alloc_new w _))
  have HR1 := Lib.hid (show W1.heap[w.heap.size + 1]? = some (.cells (lcell z ia' ms'.length ic' ba' bc') 111 (0, 0)) by
    rw [hW1]
    have h9 := heap_alloc_new (w.alloc (.cells (lcell x ia ms.length ic ba bc) 111)) (.cells (lcell z ia' ms'.length ic' ba' bc') 111)
    simpa using h9)
  have HB1 := Lib.hid hb1
  have H := Lib.hid ((h.below hb1 (Nat.le_refl _)).mono hb1.size)
  have H' := Lib.hid ((h'.below hb1 (Nat.le_refl _)).mono hb1.size)
  have hl0 := h.len
  have hl0' := h'.len
  obtain ⟨R, hR⟩ : ∃ R, sameL x z = R := ⟨_, rfl⟩
  rw [hR]
  by_cases q0 : x.k = z.k
  · have t0 : (x.k != z.k) = false := by simpa using q0
    by_cases q1 : x.t = z.t
    · have t1 : (x.t != z.t) = false := by simpa using q1
      by_cases q2 : x.a = z.a
      · have t2 : (x.a != z.a) = false := by simpa using q2
        by_cases q3 : x.u = z.u
        · have t3 : (x.u != z.u) = false := by simpa using q3
          by_cases q4 : x.o = z.o
          · have t4 : (x.o != z.o) = false := by simpa using q4
            by_cases q5 : x.y = z.y
            · have t5 : (x.y == z.y) = true := by simpa using q5
              by_cases hlen : ms.length = ms'.length
              · have t6 : ((ms.length : Int) != (ms'.length : Int)) = false := by simp; omega
                by_cases hby : x.b = z.b
                · have hdb : decide (x.b = z.b) = true := by simpa using hby
                  have HDB := Lib.hid hdb
                  have hRf : R = decide (ms.map MItem.it = ms'.map MItem.it) := by rw [← hR, h.eq, h'.eq]; simp [sameL, q0, q1, q2, q3, q4, q5, hby]
                  have HRF := Lib.hid hRf
                  have HLEN := Lib.hid hlen
                  clear hR hRf h h' hW1 hb1 hl0 hl0' hdb hby hlen q0 q1 q2 q3 q4 q5
                  go_enter Try.func76, Try.ntmps76
                  go_wp2_with fail
                  rw [← HW1.out]
                  refine (r1Bytes x.b z.b ba ba' x.b.length bc z.b.length bc' _ H.out.b H'.out.b).mono ?_
                  rintro e w3 ⟨rfl, hb3⟩
                  have hs3 := hb3.size
                  have HB3 := Lib.hid (HB1.out.trans (hb3.mono HB1.out.size))
                  have HR03 := Lib.hid ((hb3.block w.heap.size (by omega)).trans HR0.out)
                  have HR13 := Lib.hid ((hb3.block (w.heap.size + 1) (by omega)).trans HR1.out)
                  have H3 := Lib.hid ((H.out.below hb3 (Nat.le_refl _)).mono hb3.size)
                  have H3' := Lib.hid ((H'.out.below hb3 (Nat.le_refl _)).mono hb3.size)
                  clear hb3
                  rw [HDB.out]
                  go_wp2_with fail
                  obtain ⟨n, hnn⟩ : ∃ n, n = ms.length := ⟨_, rfl⟩
                  have HNN := Lib.hid hnn
                  clear hnn
                  go_loopw [5] (fun iv wr => ∃ j : Nat, j ≤ ms.length ∧ iv = .int .i64 j ∧ (∀ k m m', k < j → ms[k]? = some m → ms'[k]? = some m' → m.it = m'.it) ∧ Below w3.heap.size w3 wr) (fun iv _ => ms.length - (intOf iv).toNat)
                  case atStart => exact ⟨0, by omega, rfl, fun k _ _ hk => by omega, Below.refl _ _⟩
                  case round =>
                    obtain ⟨j, hj, rfl, hall, hbel⟩ := hrel
                    have HALL := Lib.hid hall
                    have HB := Lib.hid hbel
                    have hsz := hbel.size
                    obtain ⟨c0, c1, c2, c3, c4, c5, c6, c7⟩ := letCells ((hbel.block w.heap.size (by omega)).trans HR03.out)
                    obtain ⟨d0, d1, d2, d3, d4, d5, d6, d7⟩ := letCells ((hbel.block (w.heap.size + 1) (by omega)).trans HR13.out)
                    clear hall hbel c0 c1 c2 c3 c4 c5 c7 d0 d1 d2 d3 d4 d5 d7
                    by_cases hjn : j < ms.length
                    · have t2 : decide (j < ms.length) = true := by simpa using hjn
                      obtain ⟨m, hm⟩ : ∃ m, ms[j]? = some m := ⟨_, List.getElem?_eq_getElem hjn⟩
                      obtain ⟨m', hm'⟩ : ∃ m', ms'[j]? = some m' := ⟨_, List.getElem?_eq_getElem (by have := HLEN.out; omega)⟩
                      obtain ⟨b, o, rfl, hb, k0, k1⟩ := H3.out.its.cell hm
                      obtain ⟨b', o', rfl, hb', k0', k1'⟩ := H3'.out.its.cell hm'
                      have hbs0 := H3.out.its.bs m (List.mem_of_getElem? hm)
                      have hbs0' := H3'.out.its.bs m' (List.mem_of_getElem? hm')
                      have hmn : m.n = m.b.length := hbs0.hlen.symm
                      have hmn' : m'.n = m'.b.length := hbs0'.hlen.symm
                      have hbs : BsAt w3 w3.heap.size m.a m.b.length m.c m.b := by rw [← hmn]; exact hbs0
                      have hbs' : BsAt w3 w3.heap.size m'.a m'.b.length m'.c m'.b := by rw [← hmn']; exact hbs0'
                      rw [hmn] at k1
                      rw [hmn'] at k1'
                      have hj0 : (0 : Int) ≤ (j : Int) := by omega
                      have hj1 : (j : Int) < (ms.length : Int) := by omega
                      have hj1' : (j : Int) < (ms'.length : Int) := by have := HLEN.out; omega
                      have HSV := Lib.hid (show LSS w.heap.size (.slice (some ⟨b, o, none⟩) ms.length ic) (.slice (some ⟨b', o', none⟩) ms'.length ic') b (o + j * 2) b' (o' + j * 2) m m' wr from ⟨c6, d6, (HB.out.cell (p := ⟨b, o + j * 2, none⟩) hb).trans k0, (HB.out.cell (p := ⟨b, o + (j * 2 + 1), none⟩) hb).trans k1, (HB.out.cell (p := ⟨b', o' + j * 2, none⟩) hb').trans k0', (HB.out.cell (p := ⟨b', o' + (j * 2 + 1), none⟩) hb').trans k1'⟩)
                      have HM := Lib.hid hm
                      have HM' := Lib.hid hm'
                      have hdr : Below wr.heap.size wr wr.drew := (Below.refl _ _).drew
                      have HBD := Lib.hid (HB.out.trans (hdr.mono hsz))
                      have HS := Lib.hid ((hbs.below HBD.out (Nat.le_refl _)).mono HBD.out.size)
                      have HS' := Lib.hid ((hbs'.below HBD.out (Nat.le_refl _)).mono HBD.out.size)
                      have HNE := Lib.hid (show m.it ≠ m'.it → R = false from fun h9 => by rw [HRF.out, decide_eq_false_iff_not]; exact items_ne hm hm' h9)
                      have HEQ := Lib.hid (show m.it = m'.it → ∀ k x x', k < j + 1 → ms[k]? = some x → ms'[k]? = some x' → x.it = x'.it from fun he k x x' hk hx hx' => by
                        by_cases hkj : k < j
                        · exact HALL.out k x x' hkj hx hx'
                        · have : k = j := by omega
                          subst this
                          rw [HM.out] at hx; rw [HM'.out] at hx'
                          injection hx with hx; injection hx' with hx'
                          subst hx hx'
                          exact he)
                      clear k0 k1 k0' k1' hbs hbs' hbs0 hbs0' hmn hmn' hm hm'
                      have hS0 := HSV.out.keep hdr (by omega) (by omega) (by omega)
                      by_cases htt : m.t = m'.t
                      · have t3 : (m.t != m'.t) = false := by simpa using htt
                        go_wp2_with fail
                        refine wp_region_any (by kernel_rfl) ?_
                        refine wpAny_of_held (S := LSS w.heap.size (.slice (some ⟨b, o, none⟩) ms.length ic) (.slice (some ⟨b', o', none⟩) ms'.length ic') b (o + j * 2) b' (o' + j * 2) m m') _ _ _ _ ?_
                        clear c6 d6
                        refine heldTake 0 70 rfl rfl (by kernel_rfl) (by kernel_rfl) (by kernel_rfl) (fun _ _ _ h => h) hS0 (.inl ⟨by rfl, by intro w' hS; obtain ⟨s1, s2, s3, s4, s5, s6⟩ := hS; go_simp; (try rfl)⟩) ?_
                        simp only [List.set_cons_zero, List.set_cons_succ]
                        refine heldTake 1 71 rfl rfl (by kernel_rfl) (by kernel_rfl) (by kernel_rfl) (fun _ _ _ h => h) hS0 (.inl ⟨by rfl, by intro w' hS; obtain ⟨s1, s2, s3, s4, s5, s6⟩ := hS; go_simp; (try rfl)⟩) ?_
                        simp only [List.set_cons_zero, List.set_cons_succ]
                        refine heldTake 2 72 rfl rfl (by kernel_rfl) (by kernel_rfl) (by kernel_rfl) (fun _ _ _ h => h) hS0 (.inl ⟨by rfl, by intro w' hS; obtain ⟨s1, s2, s3, s4, s5, s6⟩ := hS; go_simp; (try rfl)⟩) ?_
                        simp only [List.set_cons_zero, List.set_cons_succ]
                        refine heldTake 3 73 rfl rfl (by kernel_rfl) (by kernel_rfl) (by kernel_rfl) (fun _ _ _ h => h) hS0 (.inl ⟨by rfl, by intro w' hS; obtain ⟨s1, s2, s3, s4, s5, s6⟩ := hS; go_simp; (try rfl)⟩) ?_
                        simp only [List.set_cons_zero, List.set_cons_succ]
                        refine heldTake 4 74 rfl rfl (by kernel_rfl) (by kernel_rfl) (by kernel_rfl) (fun _ _ _ h => h) hS0 (.inl ⟨by rfl, by intro w' hS; obtain ⟨s1, s2, s3, s4, s5, s6⟩ := hS; go_simp; (try rfl)⟩) ?_
                        simp only [List.set_cons_zero, List.set_cons_succ]
                        refine heldTake 5 75 rfl rfl (by kernel_rfl) (by kernel_rfl) (by kernel_rfl) (fun _ _ _ h => h) hS0 (.inl ⟨by rfl, by intro w' hS; obtain ⟨s1, s2, s3, s4, s5, s6⟩ := hS; go_simp; (try rfl)⟩) ?_
                        simp only [List.set_cons_zero, List.set_cons_succ]
                        refine heldTake 6 76 rfl rfl (by kernel_rfl) (by kernel_rfl) (by kernel_rfl) (fun _ _ _ h => h) hS0 (.inl ⟨by rfl, by intro w' hS; obtain ⟨s1, s2, s3, s4, s5, s6⟩ := hS; go_simp; (try rfl)⟩) ?_
                        simp only [List.set_cons_zero, List.set_cons_succ]
                        refine heldTake 7 77 rfl rfl (by kernel_rfl) (by kernel_rfl) (by kernel_rfl) (fun _ _ _ h => h) hS0 (.inl ⟨by rfl, by intro w' hS; obtain ⟨s1, s2, s3, s4, s5, s6⟩ := hS; go_simp; (try rfl)⟩) ?_
                        simp only [List.set_cons_zero, List.set_cons_succ]
                        refine heldTake 8 78 rfl rfl (by kernel_rfl) (by kernel_rfl) (by kernel_rfl) (fun _ _ _ h => h) hS0 (.inl ⟨by rfl, by intro w' hS; obtain ⟨s1, s2, s3, s4, s5, s6⟩ := hS; go_simp; (try rfl)⟩) ?_
                        simp only [List.set_cons_zero, List.set_cons_succ]
                        refine heldTake 9 79 rfl rfl (by kernel_rfl) (by kernel_rfl) (by kernel_rfl) (fun _ _ _ h => h) hS0 (.inl ⟨by rfl, by intro w' hS; obtain ⟨s1, s2, s3, s4, s5, s6⟩ := hS; go_simp; (try rfl)⟩) ?_
                        simp only [List.set_cons_zero, List.set_cons_succ]
                        refine heldTake 10 80 rfl rfl (by kernel_rfl) (by kernel_rfl) (by kernel_rfl) (fun _ _ _ h => h) hS0 (.inl ⟨by rfl, by intro w' hS; obtain ⟨s1, s2, s3, s4, s5, s6⟩ := hS; go_simp; (try rfl)⟩) ?_
                        simp only [List.set_cons_zero, List.set_cons_succ]
                        refine heldTake 11 81 rfl rfl (by kernel_rfl) (by kernel_rfl) (by kernel_rfl) (fun _ _ _ h => h) hS0 (.inl ⟨by rfl, by intro w' hS; obtain ⟨s1, s2, s3, s4, s5, s6⟩ := hS; go_simp; (try rfl)⟩) ?_
                        simp only [List.set_cons_zero, List.set_cons_succ]
                        refine heldTake 12 82 rfl rfl (by kernel_rfl) (by kernel_rfl) (by kernel_rfl) (fun _ _ _ h => h) hS0 (.inl ⟨by rfl, by intro w' hS; obtain ⟨s1, s2, s3, s4, s5, s6⟩ := hS; go_simp; (try rfl)⟩) ?_
                        simp only [List.set_cons_zero, List.set_cons_succ]
                        refine heldTake 13 83 rfl rfl (by kernel_rfl) (by kernel_rfl) (by kernel_rfl) (fun _ _ _ h => h) hS0 (.inl ⟨by rfl, by intro w' hS; obtain ⟨s1, s2, s3, s4, s5, s6⟩ := hS; go_simp; (try rfl)⟩) ?_
                        simp only [List.set_cons_zero, List.set_cons_succ]
                        refine heldTake 14 84 rfl rfl (by kernel_rfl) (by kernel_rfl) (by kernel_rfl) (fun _ _ _ h => h) hS0 (.inl ⟨by rfl, by intro w' hS; obtain ⟨s1, s2, s3, s4, s5, s6⟩ := hS; go_simp; (try rfl)⟩) ?_
                        simp only [List.set_cons_zero, List.set_cons_succ]
                        refine heldTake 15 85 rfl rfl (by kernel_rfl) (by kernel_rfl) (by kernel_rfl) (fun _ _ _ h => h) hS0 (.inl ⟨by rfl, by intro w' hS; obtain ⟨s1, s2, s3, s4, s5, s6⟩ := hS; go_simp; (try rfl)⟩) ?_
                        simp only [List.set_cons_zero, List.set_cons_succ]
                        refine heldTake 16 86 rfl rfl (by kernel_rfl) (by kernel_rfl) (by kernel_rfl) (fun _ _ _ h => h) hS0 (.inl ⟨by rfl, by intro w' hS; obtain ⟨s1, s2, s3, s4, s5, s6⟩ := hS; go_simp; (try rfl)⟩) ?_
                        simp only [List.set_cons_zero, List.set_cons_succ]
                        refine heldTake 17 87 rfl rfl (by kernel_rfl) (by kernel_rfl) (by kernel_rfl) (fun _ _ _ h => h) hS0 (.inl ⟨by rfl, by intro w' hS; obtain ⟨s1, s2, s3, s4, s5, s6⟩ := hS; go_simp; (try rfl)⟩) ?_
                        simp only [List.set_cons_zero, List.set_cons_succ]
                        refine heldTake 18 88 rfl rfl (by kernel_rfl) (by kernel_rfl) (by kernel_rfl) (fun _ _ _ h => h) hS0 (.inl ⟨by rfl, by intro w' hS; obtain ⟨s1, s2, s3, s4, s5, s6⟩ := hS; go_simp; (try rfl)⟩) ?_
                        simp only [List.set_cons_zero, List.set_cons_succ]
                        refine heldTake 19 89 rfl rfl (by kernel_rfl) (by kernel_rfl) (by kernel_rfl) (fun _ _ _ h => h) hS0 (.inl ⟨by rfl, by intro w' hS; obtain ⟨s1, s2, s3, s4, s5, s6⟩ := hS; go_simp; (try rfl)⟩) ?_
                        simp only [List.set_cons_zero, List.set_cons_succ]
                        refine heldTake 20 90 rfl rfl (by kernel_rfl) (by kernel_rfl) (by kernel_rfl) (fun _ _ _ h => h) hS0 (.inl ⟨by rfl, by intro w' hS; obtain ⟨s1, s2, s3, s4, s5, s6⟩ := hS; go_simp; (try rfl)⟩) ?_
                        simp only [List.set_cons_zero, List.set_cons_succ]
                        refine heldTake 21 91 rfl rfl (by kernel_rfl) (by kernel_rfl) (by kernel_rfl) (fun _ _ _ h => h) hS0 (.inl ⟨by rfl, by intro w' hS; obtain ⟨s1, s2, s3, s4, s5, s6⟩ := hS; go_simp; (try rfl)⟩) ?_
                        simp only [List.set_cons_zero, List.set_cons_succ]
                        refine heldTake 22 92 rfl rfl (by kernel_rfl) (by kernel_rfl) (by kernel_rfl) (fun _ _ _ h => h) hS0 (.inl ⟨by rfl, by intro w' hS; obtain ⟨s1, s2, s3, s4, s5, s6⟩ := hS; go_simp; (try rfl)⟩) ?_
                        simp only [List.set_cons_zero, List.set_cons_succ]
                        refine heldTake 23 93 rfl rfl (by kernel_rfl) (by kernel_rfl) (by kernel_rfl) (fun _ _ _ h => h) hS0 (.inl ⟨by rfl, by intro w' hS; obtain ⟨s1, s2, s3, s4, s5, s6⟩ := hS; go_simp; (try rfl)⟩) ?_
                        simp only [List.set_cons_zero, List.set_cons_succ]
                        refine heldTake 24 94 rfl rfl (by kernel_rfl) (by kernel_rfl) (by kernel_rfl) (fun _ _ _ h => h) hS0 (.inl ⟨by rfl, by intro w' hS; obtain ⟨s1, s2, s3, s4, s5, s6⟩ := hS; go_simp; (try rfl)⟩) ?_
                        simp only [List.set_cons_zero, List.set_cons_succ]
                        refine heldTake 25 95 rfl rfl (by kernel_rfl) (by kernel_rfl) (by kernel_rfl) (fun _ _ _ h => h) hS0 (.inl ⟨by rfl, by intro w' hS; obtain ⟨s1, s2, s3, s4, s5, s6⟩ := hS; go_simp; (try rfl)⟩) ?_
                        simp only [List.set_cons_zero, List.set_cons_succ]
                        clear hS0
                        refine heldOne 26 (by kernel_rfl) rfl (by rfl) ?_
                        go_simp
                        refine (r1Bytes m.b m'.b m.a m'.a m.b.length m.c m'.b.length m'.c _ HS.out HS'.out).mono ?_
                        rintro e w5 ⟨rfl, hb5⟩
                        have hB5 := hdr.trans hb5
                        have HB5 := Lib.hid (HB.out.trans (hB5.mono hsz))
                        have hS5 := HSV.out.keep hB5 (by omega) (by omega) (by omega)
                        clear hb5 hB5 hdr
                        by_cases hbb : m.b = m'.b
                        · rw [show decide (m.b = m'.b) = true from by simpa using hbb]
                          have HN := Lib.hid (HEQ.out (by simp [MItem.it, htt, hbb]))
                          clear hbb htt
                          refine ⟨hS5, ?_⟩
                          refine heldTake 27 97 rfl rfl (by kernel_rfl) (by kernel_rfl) (by kernel_rfl) (fun _ _ _ h => h) hS5 (.inl ⟨by rfl, by intro w' hS; obtain ⟨s1, s2, s3, s4, s5, s6⟩ := hS; go_simp; (try rfl)⟩) ?_
                          simp only [List.set_cons_zero, List.set_cons_succ]
                          refine heldTake 28 98 rfl rfl (by kernel_rfl) (by kernel_rfl) (by kernel_rfl) (fun _ _ _ h => h) hS5 (.inl ⟨by rfl, by intro w' hS; obtain ⟨s1, s2, s3, s4, s5, s6⟩ := hS; go_simp; (try rfl)⟩) ?_
                          simp only [List.set_cons_zero, List.set_cons_succ]
                          refine wpAnyH_done (by kernel_rfl) ?_ _
                          clear hS5
                          go_wp2
                          go_roundw
                          case rel => exact ⟨j + 1, by omega, by go_num, HN.out, HB5.out⟩
                          case measure => simp [intOf]; omega
                        · rw [show decide (m.b = m'.b) = false from by simpa using hbb]
                          have hrf := HNE.out (fun e => hbb (congrArg Prod.snd e))
                          subst hrf
                          clear hbb htt
                          refine ⟨hS5, ?_⟩
                          refine heldTake 27 97 rfl rfl (by kernel_rfl) (by kernel_rfl) (by kernel_rfl) (fun _ _ _ h => h) hS5 (.inl ⟨by rfl, by intro w' hS; obtain ⟨s1, s2, s3, s4, s5, s6⟩ := hS; go_simp; (try rfl)⟩) ?_
                          simp only [List.set_cons_zero, List.set_cons_succ]
                          refine heldTake 28 98 rfl rfl (by kernel_rfl) (by kernel_rfl) (by kernel_rfl) (fun _ _ _ h => h) hS5 (.inl ⟨by rfl, by intro w' hS; obtain ⟨s1, s2, s3, s4, s5, s6⟩ := hS; go_simp; (try rfl)⟩) ?_
                          simp only [List.set_cons_zero, List.set_cons_succ]
                          refine wpAnyH_done (by kernel_rfl) ?_ _
                          clear hS5
                          go_wp2
                          (try rw [Exit.noGoto_ret])
                          go_ret
                          exact ⟨rfl, HB3.out.trans (HB5.out.mono HB3.out.size)⟩
                      · have t3 : (m.t != m'.t) = true := by simpa using htt
                        have hrf := HNE.out (fun e => htt (congrArg Prod.fst e))
                        subst hrf
                        clear htt
                        go_wp2_with fail
                        refine wp_region_any (by kernel_rfl) ?_
                        refine wpAny_of_held (S := LSS w.heap.size (.slice (some ⟨b, o, none⟩) ms.length ic) (.slice (some ⟨b', o', none⟩) ms'.length ic') b (o + j * 2) b' (o' + j * 2) m m') _ _ _ _ ?_
                        clear c6 d6 hdr
                        refine heldTake 0 70 rfl rfl (by kernel_rfl) (by kernel_rfl) (by kernel_rfl) (fun _ _ _ h => h) hS0 (.inl ⟨by rfl, by intro w' hS; obtain ⟨s1, s2, s3, s4, s5, s6⟩ := hS; go_simp; (try rfl)⟩) ?_
                        simp only [List.set_cons_zero, List.set_cons_succ]
                        refine heldTake 1 71 rfl rfl (by kernel_rfl) (by kernel_rfl) (by kernel_rfl) (fun _ _ _ h => h) hS0 (.inl ⟨by rfl, by intro w' hS; obtain ⟨s1, s2, s3, s4, s5, s6⟩ := hS; go_simp; (try rfl)⟩) ?_
                        simp only [List.set_cons_zero, List.set_cons_succ]
                        refine heldTake 2 72 rfl rfl (by kernel_rfl) (by kernel_rfl) (by kernel_rfl) (fun _ _ _ h => h) hS0 (.inl ⟨by rfl, by intro w' hS; obtain ⟨s1, s2, s3, s4, s5, s6⟩ := hS; go_simp; (try rfl)⟩) ?_
                        simp only [List.set_cons_zero, List.set_cons_succ]
                        refine heldTake 3 73 rfl rfl (by kernel_rfl) (by kernel_rfl) (by kernel_rfl) (fun _ _ _ h => h) hS0 (.inl ⟨by rfl, by intro w' hS; obtain ⟨s1, s2, s3, s4, s5, s6⟩ := hS; go_simp; (try rfl)⟩) ?_
                        simp only [List.set_cons_zero, List.set_cons_succ]
                        refine heldTake 4 74 rfl rfl (by kernel_rfl) (by kernel_rfl) (by kernel_rfl) (fun _ _ _ h => h) hS0 (.inl ⟨by rfl, by intro w' hS; obtain ⟨s1, s2, s3, s4, s5, s6⟩ := hS; go_simp; (try rfl)⟩) ?_
                        simp only [List.set_cons_zero, List.set_cons_succ]
                        refine heldTake 5 75 rfl rfl (by kernel_rfl) (by kernel_rfl) (by kernel_rfl) (fun _ _ _ h => h) hS0 (.inl ⟨by rfl, by intro w' hS; obtain ⟨s1, s2, s3, s4, s5, s6⟩ := hS; go_simp; (try rfl)⟩) ?_
                        simp only [List.set_cons_zero, List.set_cons_succ]
                        refine heldTake 6 76 rfl rfl (by kernel_rfl) (by kernel_rfl) (by kernel_rfl) (fun _ _ _ h => h) hS0 (.inl ⟨by rfl, by intro w' hS; obtain ⟨s1, s2, s3, s4, s5, s6⟩ := hS; go_simp; (try rfl)⟩) ?_
                        simp only [List.set_cons_zero, List.set_cons_succ]
                        refine heldTake 7 77 rfl rfl (by kernel_rfl) (by kernel_rfl) (by kernel_rfl) (fun _ _ _ h => h) hS0 (.inl ⟨by rfl, by intro w' hS; obtain ⟨s1, s2, s3, s4, s5, s6⟩ := hS; go_simp; (try rfl)⟩) ?_
                        simp only [List.set_cons_zero, List.set_cons_succ]
                        refine heldTake 8 78 rfl rfl (by kernel_rfl) (by kernel_rfl) (by kernel_rfl) (fun _ _ _ h => h) hS0 (.inl ⟨by rfl, by intro w' hS; obtain ⟨s1, s2, s3, s4, s5, s6⟩ := hS; go_simp; (try rfl)⟩) ?_
                        simp only [List.set_cons_zero, List.set_cons_succ]
                        refine heldTake 9 79 rfl rfl (by kernel_rfl) (by kernel_rfl) (by kernel_rfl) (fun _ _ _ h => h) hS0 (.inl ⟨by rfl, by intro w' hS; obtain ⟨s1, s2, s3, s4, s5, s6⟩ := hS; go_simp; (try rfl)⟩) ?_
                        simp only [List.set_cons_zero, List.set_cons_succ]
                        refine heldTake 10 80 rfl rfl (by kernel_rfl) (by kernel_rfl) (by kernel_rfl) (fun _ _ _ h => h) hS0 (.inl ⟨by rfl, by intro w' hS; obtain ⟨s1, s2, s3, s4, s5, s6⟩ := hS; go_simp; (try rfl)⟩) ?_
                        simp only [List.set_cons_zero, List.set_cons_succ]
                        refine heldTake 11 81 rfl rfl (by kernel_rfl) (by kernel_rfl) (by kernel_rfl) (fun _ _ _ h => h) hS0 (.inl ⟨by rfl, by intro w' hS; obtain ⟨s1, s2, s3, s4, s5, s6⟩ := hS; go_simp; (try rfl)⟩) ?_
                        simp only [List.set_cons_zero, List.set_cons_succ]
                        refine heldTake 12 82 rfl rfl (by kernel_rfl) (by kernel_rfl) (by kernel_rfl) (fun _ _ _ h => h) hS0 (.inl ⟨by rfl, by intro w' hS; obtain ⟨s1, s2, s3, s4, s5, s6⟩ := hS; go_simp; (try rfl)⟩) ?_
                        simp only [List.set_cons_zero, List.set_cons_succ]
                        refine heldTake 13 83 rfl rfl (by kernel_rfl) (by kernel_rfl) (by kernel_rfl) (fun _ _ _ h => h) hS0 (.inl ⟨by rfl, by intro w' hS; obtain ⟨s1, s2, s3, s4, s5, s6⟩ := hS; go_simp; (try rfl)⟩) ?_
                        simp only [List.set_cons_zero, List.set_cons_succ]
                        refine heldTake 14 84 rfl rfl (by kernel_rfl) (by kernel_rfl) (by kernel_rfl) (fun _ _ _ h => h) hS0 (.inr ⟨by rfl, rfl⟩) ?_
                        simp only [List.set_cons_zero, List.set_cons_succ]
                        refine heldTake 15 85 rfl rfl (by kernel_rfl) (by kernel_rfl) (by kernel_rfl) (fun _ _ _ h => h) hS0 (.inr ⟨by rfl, rfl⟩) ?_
                        simp only [List.set_cons_zero, List.set_cons_succ]
                        refine heldTake 16 86 rfl rfl (by kernel_rfl) (by kernel_rfl) (by kernel_rfl) (fun _ _ _ h => h) hS0 (.inr ⟨by rfl, rfl⟩) ?_
                        simp only [List.set_cons_zero, List.set_cons_succ]
                        refine heldTake 17 87 rfl rfl (by kernel_rfl) (by kernel_rfl) (by kernel_rfl) (fun _ _ _ h => h) hS0 (.inr ⟨by rfl, rfl⟩) ?_
                        simp only [List.set_cons_zero, List.set_cons_succ]
                        refine heldTake 18 88 rfl rfl (by kernel_rfl) (by kernel_rfl) (by kernel_rfl) (fun _ _ _ h => h) hS0 (.inr ⟨by rfl, rfl⟩) ?_
                        simp only [List.set_cons_zero, List.set_cons_succ]
                        refine heldTake 19 89 rfl rfl (by kernel_rfl) (by kernel_rfl) (by kernel_rfl) (fun _ _ _ h => h) hS0 (.inr ⟨by rfl, rfl⟩) ?_
                        simp only [List.set_cons_zero, List.set_cons_succ]
                        refine heldTake 20 90 rfl rfl (by kernel_rfl) (by kernel_rfl) (by kernel_rfl) (fun _ _ _ h => h) hS0 (.inr ⟨by rfl, rfl⟩) ?_
                        simp only [List.set_cons_zero, List.set_cons_succ]
                        refine heldTake 21 91 rfl rfl (by kernel_rfl) (by kernel_rfl) (by kernel_rfl) (fun _ _ _ h => h) hS0 (.inr ⟨by rfl, rfl⟩) ?_
                        simp only [List.set_cons_zero, List.set_cons_succ]
                        refine heldTake 22 92 rfl rfl (by kernel_rfl) (by kernel_rfl) (by kernel_rfl) (fun _ _ _ h => h) hS0 (.inr ⟨by rfl, rfl⟩) ?_
                        simp only [List.set_cons_zero, List.set_cons_succ]
                        refine heldTake 23 93 rfl rfl (by kernel_rfl) (by kernel_rfl) (by kernel_rfl) (fun _ _ _ h => h) hS0 (.inr ⟨by rfl, rfl⟩) ?_
                        simp only [List.set_cons_zero, List.set_cons_succ]
                        refine heldTake 24 94 rfl rfl (by kernel_rfl) (by kernel_rfl) (by kernel_rfl) (fun _ _ _ h => h) hS0 (.inr ⟨by rfl, rfl⟩) ?_
                        simp only [List.set_cons_zero, List.set_cons_succ]
                        refine heldTake 25 95 rfl rfl (by kernel_rfl) (by kernel_rfl) (by kernel_rfl) (fun _ _ _ h => h) hS0 (.inr ⟨by rfl, rfl⟩) ?_
                        simp only [List.set_cons_zero, List.set_cons_succ]
                        refine heldTake 26 96 rfl rfl (by kernel_rfl) (by kernel_rfl) (by kernel_rfl) (fun _ _ _ h => h) hS0 (.inr ⟨by rfl, rfl⟩) ?_
                        simp only [List.set_cons_zero, List.set_cons_succ]
                        refine heldTake 27 97 rfl rfl (by kernel_rfl) (by kernel_rfl) (by kernel_rfl) (fun _ _ _ h => h) hS0 (.inr ⟨by rfl, rfl⟩) ?_
                        simp only [List.set_cons_zero, List.set_cons_succ]
                        refine heldTake 28 98 rfl rfl (by kernel_rfl) (by kernel_rfl) (by kernel_rfl) (fun _ _ _ h => h) hS0 (.inl ⟨by rfl, by intro w' hS; obtain ⟨s1, s2, s3, s4, s5, s6⟩ := hS; go_simp; (try rfl)⟩) ?_
                        simp only [List.set_cons_zero, List.set_cons_succ]
                        refine wpAnyH_done (by kernel_rfl) ?_ _
                        clear hS0
                        go_wp2
                        (try rw [Exit.noGoto_ret])
                        go_ret
                        exact ⟨rfl, HB3.out.trans (HBD.out.mono HB3.out.size)⟩
                    · have t2 : decide (j < ms.length) = false := by simpa using hjn
                      have hje : j = ms.length := by omega
                      subst hje
                      have hrt : R = true := by
                        rw [HRF.out, decide_eq_true_eq]
                        exact items_ext HLEN.out fun k y y' hx hx' => HALL.out k y y' (by have := (List.getElem?_eq_some_iff.1 hx).1; omega) hx hx'
                      subst hrt
                      go_wp2
                      go_ret
                      exact ⟨rfl, HB3.out.trans (HB.out.mono HB3.out.size)⟩
                · have hdb : decide (x.b = z.b) = false := by simpa using hby
                  have HDB := Lib.hid hdb
                  have hRf : R = false := by rw [← hR]; simp [sameL, hby]
                  subst hRf
                  clear hR h h' hW1 hb1 hl0 hl0' hdb hby q0 q1 q2 q3 q4 q5 hlen
                  go_enter Try.func76, Try.ntmps76
                  go_wp2_with fail
                  rw [← HW1.out]
                  refine (r1Bytes x.b z.b ba ba' x.b.length bc z.b.length bc' _ H.out.b H'.out.b).mono ?_
                  rintro e w3 ⟨rfl, hb3⟩
                  have hs3 := hb3.size
                  have HB3 := Lib.hid (HB1.out.trans (hb3.mono HB1.out.size))
                  have HR03 := Lib.hid ((hb3.block w.heap.size (by omega)).trans HR0.out)
                  have HR13 := Lib.hid ((hb3.block (w.heap.size + 1) (by omega)).trans HR1.out)
                  have H3 := Lib.hid ((H.out.below hb3 (Nat.le_refl _)).mono hb3.size)
                  have H3' := Lib.hid ((H'.out.below hb3 (Nat.le_refl _)).mono hb3.size)
                  clear hb3
                  rw [HDB.out]
                  go_wp2
                  go_ret
                  exact ⟨rfl, HB3.out⟩
              · have t6 : ((ms.length : Int) != (ms'.length : Int)) = true := by simp; omega
                have hRf : R = false := by
                  rw [← hR]
                  have : x.its ≠ z.its := fun e => by rw [e] at hl0; omega
                  simp [sameL, this]
                subst hRf
                clear hR h h' hW1 hb1 hl0 hl0' hlen q0 q1 q2 q3 q4 q5
                go_enter Try.func76, Try.ntmps76
                go_wp2
                go_ret
                exact ⟨rfl, (by have := HB1.out; rw [HW1.out] at this; exact this)⟩
            · have t5 : (x.y == z.y) = false := by simpa using q5
              have hRf : R = false := by rw [← hR]; simp [sameL, q5]
              have HRF := Lib.hid hRf
              subst hRf
              clear hR h h' hW1 hb1 hl0 hl0' q0 q1 q2 q3 q4 q5
              go_enter Try.func76, Try.ntmps76
              go_wp2
              go_ret
              exact ⟨rfl, (by have := HB1.out; rw [HW1.out] at this; exact this)⟩
          · have t4 : (x.o != z.o) = true := by simpa using q4
            have hRf : R = false := by rw [← hR]; simp [sameL, q4]
            have HRF := Lib.hid hRf
            subst hRf
            clear hR h h' hW1 hb1 hl0 hl0' q0 q1 q2 q3 q4
            go_enter Try.func76, Try.ntmps76
            go_wp2
            go_ret
            exact ⟨rfl, (by have := HB1.out; rw [HW1.out] at this; exact this)⟩
        · have t3 : (x.u != z.u) = true := by simpa using q3
          have hRf : R = false := by rw [← hR]; simp [sameL, q3]
          have HRF := Lib.hid hRf
          subst hRf
          clear hR h h' hW1 hb1 hl0 hl0' q0 q1 q2 q3
          go_enter Try.func76, Try.ntmps76
          go_wp2
          go_ret
          exact ⟨rfl, (by have := HB1.out; rw [HW1.out] at this; exact this)⟩
      · have t2 : (x.a != z.a) = true := by simpa using q2
        have hRf : R = false := by rw [← hR]; simp [sameL, q2]
        have HRF := Lib.hid hRf
        subst hRf
        clear hR h h' hW1 hb1 hl0 hl0' q0 q1 q2
        go_enter Try.func76, Try.ntmps76
        go_wp2
        go_ret
        exact ⟨rfl, (by have := HB1.out; rw [HW1.out] at this; exact this)⟩
    · have t1 : (x.t != z.t) = true := by simpa using q1
      have hRf : R = false := by rw [← hR]; simp [sameL, q1]
      have HRF := Lib.hid hRf
      subst hRf
      clear hR h h' hW1 hb1 hl0 hl0' q0 q1
      go_enter Try.func76, Try.ntmps76
      go_wp2
      go_ret
      exact ⟨rfl, (by have := HB1.out; rw [HW1.out] at this; exact this)⟩
  · have t0 : (x.k != z.k) = true := by simpa using q0
    have hRf : R = false := by rw [← hR]; simp [sameL, q0]
    have HRF := Lib.hid hRf
    subst hRf
    clear hR h h' hW1 hb1 hl0 hl0' q0
    go_enter Try.func76, Try.ntmps76
    go_wp2
    go_ret
    exact ⟨rfl, (by have := HB1.out; rw [HW1.out] at this; exact this)⟩
end Go.Proofs.Ytogcnfhmcpkdcaa
