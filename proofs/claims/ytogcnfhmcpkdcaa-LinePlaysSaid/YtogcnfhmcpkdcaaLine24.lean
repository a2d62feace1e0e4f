/-
  Contract of the reference's Add to a line: the item is added.
-/
import Derived.Test.YtogcnfhmcpkdcaaLine22
namespace Go.Proofs.Ytogcnfhmcpkdcaa
open Go.RowKit
set_option linter.unusedVariables false
set_option linter.unusedSimpArgs false

theorem sl_grown {w w' : World} {row : Option Nat} {b size n c : Nat} {cs : List Value} (h : SlAt w w.heap.size size (some ⟨b, 0, none⟩) n c cs) (hg : w.grownBy w' row) (hne : some b ≠ row) : SlAt w' w'.heap.size size (some ⟨b, 0, none⟩) n c cs :=
  ⟨h.hlen, h.hle, h.hmax, h.hnil, fun hp => by
    obtain ⟨b', o, e, hb, hc⟩ := h.hat hp
    injection e with e
    injection e with e1 e2 _
    subst e1; subst e2
    exact ⟨b, 0, rfl, Nat.lt_of_lt_of_le hb hg.size, fun i hi => (hg.cell_far ⟨b, 0 + i, none⟩ hb hne).trans (hc i hi)⟩⟩

/-- an own row of items, as items -/
theorem itemsOf {w : World} {base : Nat} {a : Option Addr} {n c : Nat} {cs : List Value} {ms : List MItem} (h : w.ownsRow base 45 2 (.slice a n c) n cs) (hn : ms.length = n) (hc : cs = cellsM ms) (hb : ∀ m ∈ ms, m.Bs w w.heap.size) : ItemsAt w w.heap.size a ms.length c ms := by
  subst hn hc
  obtain ⟨a', c', e, hs⟩ := SlAt.ofOwns h
  injection e with e1 _ e2
  subst e1 e2
  exact ⟨hs, hb⟩

/-- ways that meet: what comes behind them is walked once -/
theorem way7 {A1 A2 A3 A4 A5 A6 A7 : Type} {G : A1 → A2 → A3 → A4 → A5 → A6 → A7 → Prop} {P : Prop} (F : A1 → A2 → A3 → A4 → A5 → A6 → A7 → Prop)
    (main : (∀ x1 x2 x3 x4 x5 x6 x7, F x1 x2 x3 x4 x5 x6 x7 → G x1 x2 x3 x4 x5 x6 x7) → P) (key : ∀ x1 x2 x3 x4 x5 x6 x7, F x1 x2 x3 x4 x5 x6 x7 → G x1 x2 x3 x4 x5 x6 x7) : P := main key

set_option maxRecDepth 100000 in
set_option maxHeartbeats 1000000 in
theorem r17Add_ok (x : PLine) (hg : x.Good) (a : Option Addr) (c : Nat) (ms : List MItem) (t : Int) (ba : Option Addr) (bc : Nat) (b : List UInt8) (w : World) (h : RAt w w.heap.size x a c ms) (hr : rightI (t, b) = true) (hf : fitsB x ((ms.length : Int) + 1) = true) (hbs : BsAt w w.heap.size ba b.length bc b) :
    Calls Try.prog 53 #[rv x a ms.length c, .agg #[.int .i64 t, .slice ba b.length bc]] w (RAddTo x a ms ⟨t, ba, b.length, bc, b⟩ w) := by
  obtain ⟨i0, hi, hz0, hz1, hz2⟩ := info_parts infoItem3
  have hl := h.len
  have hb0 := hg.b0
  have hb1 := hg.b1
  have hn1 := hg.n1
  have hn4 : (ms.length : Int) ≤ 4096 := by omega
  have hE : x.add (t, b) = (⟨x.base, x.term, x.l ++ [(t, b)]⟩, x.last + 1) := by unfold PLine.add; rw [if_pos ⟨hr, by rw [← hl, hf]⟩]
  have HBS := Lib.hid hbs
  have HF := Lib.hid hf
  have H := Lib.hid h
  have HE := Lib.hid hE
  have HR := Lib.hid hr
  obtain ⟨W1, hW1⟩ : ∃ W1, W1 = ((w.alloc (.cells #[.int .i64 x.base, .int .i64 x.term, .slice a ms.length c] 88)).alloc (.cells #[.int .i64 t, .slice ba b.length bc] 45)).alloc (.cells #[.int .i64 0, .int .i64 0, .slice none 0 0] 88) := ⟨_, rfl⟩
  have HW1 := Lib.hid hW1
  have hbW : Below w.heap.size w W1 := by rw [hW1]; exact (((Below.refl _ w).alloc (Nat.le_refl _) _).alloc (by simp) _).alloc (by simp; omega) _
  have hs1 : W1.heap.size = w.heap.size + 3 := by rw [hW1]; simp
  have hr0 : W1.heap[w.heap.size]? = some (.cells #[.int .i64 x.base, .int .i64 x.term, .slice a ms.length c] 88 (0, 0)) := by
    rw [hW1]
    refine ((((Below.refl _ (w.alloc (.cells #[.int .i64 x.base, .int .i64 x.term, .slice a ms.length c] 88))).alloc (Nat.le_refl _) _).alloc (by simp) _).block _ (by simp)).trans (heap_alloc_new w _)
  have hr2 : W1.heap[w.heap.size + 2]? = some (.cells #[.int .i64 0, .int .i64 0, .slice none 0 0] 88 (0, 0)) := by
    rw [hW1]
    have := heap_alloc_new ((w.alloc (.cells #[.int .i64 x.base, .int .i64 x.term, .slice a ms.length c] 88)).alloc (.cells #[.int .i64 t, .slice ba b.length bc] 45)) (.cells #[.int .i64 0, .int .i64 0, .slice none 0 0] 88)
    simpa using this
  have hr1 : W1.heap[w.heap.size + 1]? = some (.cells #[.int .i64 t, .slice ba b.length bc] 45 (0, 0)) := by
    rw [hW1]
    have h9 := heap_alloc_new (w.alloc (.cells #[.int .i64 x.base, .int .i64 x.term, .slice a ms.length c] 88)) (.cells #[.int .i64 t, .slice ba b.length bc] 45)
    refine (((Below.refl _ ((w.alloc (.cells #[.int .i64 x.base, .int .i64 x.term, .slice a ms.length c] 88)).alloc (.cells #[.int .i64 t, .slice ba b.length bc] 45))).alloc (Nat.le_refl _) _).block _ (by simp)).trans (by simpa using h9)
  have HR1 := Lib.hid hr1
  clear hr1
  have HBW := Lib.hid hbW
  have HR0 := Lib.hid hr0
  have HR2 := Lib.hid hr2
  clear h hE hr hW1 hbW hr0 hr2 hf hl hn1
  go_enter Try.func53, Try.ntmps53
  go_wp2_with fail
  rw [← HW1.out]
  refine (r17Right t ba bc b _).mono ?_
  rintro e w3 ⟨rfl, hb3⟩
  rw [HR.out]
  have hs3 := hb3.size
  have hd0 := (hb3.block w.heap.size (by omega)).trans HR0.out
  have HD2 := Lib.hid ((hb3.block (w.heap.size + 2) (by omega)).trans HR2.out)
  have d0 : w3.cell? ⟨w.heap.size, 0, none⟩ = some (.int .i64 x.base) := cell_of_row w3 w.heap.size 0 _ _ _ hd0
  have d1 : w3.cell? ⟨w.heap.size, 1, none⟩ = some (.int .i64 x.term) := cell_of_row w3 w.heap.size 1 _ _ _ hd0
  have d2 : w3.cell? ⟨w.heap.size, 2, none⟩ = some (.slice a ms.length c) := cell_of_row w3 w.heap.size 2 _ _ _ hd0
  have HB3 := Lib.hid (HBW.out.trans (hb3.mono (by omega)))
  have HR3 := Lib.hid hd0
  have HR13 := Lib.hid ((hb3.block (w.heap.size + 1) (by omega)).trans HR1.out)
  clear hb3 hd0
  go_wp2_with fail
  refine (r17Fits x hb0 hb1 a ms.length c _ _).mono ?_
  rintro e w4 ⟨rfl, hb4⟩
  rw [HF.out]
  have hs4 := hb4.size
  have hd4 := (hb4.block w.heap.size (by omega)).trans HR3.out
  have HD4 := Lib.hid ((hb4.block (w.heap.size + 2) (by omega)).trans HD2.out)
  have HB4 := Lib.hid (HB3.out.trans (hb4.mono (by omega)))
  have HR4 := Lib.hid hd4
  have HR14 := Lib.hid ((hb4.block (w.heap.size + 1) (by omega)).trans HR13.out)
  clear d0 d1 d2 hb4
  have d0 : w4.cell? ⟨w.heap.size, 0, none⟩ = some (.int .i64 x.base) := cell_of_row w4 w.heap.size 0 _ _ _ hd4
  have d1 : w4.cell? ⟨w.heap.size, 1, none⟩ = some (.int .i64 x.term) := cell_of_row w4 w.heap.size 1 _ _ _ hd4
  have d2 : w4.cell? ⟨w.heap.size, 2, none⟩ = some (.slice a ms.length c) := cell_of_row w4 w.heap.size 2 _ _ _ hd4
  clear hd4
  have HS4 := Lib.hid (show AddS (w.heap.size + 1) t ba b.length bc w4 from ⟨cell_of_row w4 (w.heap.size + 1) 0 _ _ _ HR14.out, cell_of_row w4 (w.heap.size + 1) 1 _ _ _ HR14.out⟩)
  have hgs : w.heap.size + 1 < w4.heap.size := by omega
  have hg0 : w.heap.size < w4.heap.size := by omega
  have D2 := Lib.hid (show ∀ u, Below w4.heap.size w4 u → u.cell? ⟨w.heap.size, 2, none⟩ = some (.slice a ms.length c) from fun u hb => (hb.cell (p := ⟨w.heap.size, 2, none⟩) hg0).trans d2)
  have IT4 := Lib.hid (show SlAt w4 w4.heap.size 2 a ms.length c (cellsM ms) from ((H.out.its.below HB4.out (Nat.le_refl _)).mono (by omega)).sl)
  go_wp2_with fail
  clear d0 d1 d2
  refine wp_region_any (by kernel_rfl) ?_
  refine wpAny_of_held (S := AddS (w.heap.size + 1) t ba b.length bc) _ _ _ _ ?_
  obtain ⟨X, hX⟩ : ∃ X, X = w4.drew := ⟨_, rfl⟩
  refine (show wpAnyH _ _ _ _ _ _ _ _ w4.drew from ?_)
  rw [← hX]
  have BX := Lib.hid (show Below w4.heap.size w4 X by rw [hX]; exact (Below.refl _ _).drew)
  have qX : w4.heap.size ≤ X.heap.size := BX.out.size
  clear hX
  have hSX := HS4.out.keep BX.out hgs
  refine heldTake 1 20 rfl rfl (by kernel_rfl) (by kernel_rfl) (by kernel_rfl) (fun _ _ _ h => h) hSX (.inl ⟨by rfl, by intro w' hS; obtain ⟨s1, s2⟩ := hS; go_simp; (try rfl)⟩) ?_
  simp only [List.set_cons_zero, List.set_cons_succ]
  refine heldTake 4 23 rfl rfl (by kernel_rfl) (by kernel_rfl) (by kernel_rfl) (fun _ _ _ h => h) hSX (.inl ⟨by rfl, by intro w' hS; obtain ⟨s1, s2⟩ := hS; go_simp; (try rfl)⟩) ?_
  simp only [List.set_cons_zero, List.set_cons_succ]
  clear hSX
  apply way7 (fun (U : World) (n1 n2 : Nat) (a1 : Option Addr) (c1 : Nat) (a2 : Option Addr) (c2 : Nat) => Below w4.heap.size w4 U ∧ U.ownsRow w4.heap.size 45 2 (.slice a2 (ms.length + 1) c2) (ms.length + 1) (cellsM ms ++ [.int .i64 t, .slice ba b.length bc]))
  intro hway
  refine wpAnyH_three (i := 0) (j := 2) (k := 5) (by kernel_rfl) (wpOp_wp rfl (by rfl) ?_) (wpOp_wp rfl (by rfl) ?_) (wpOp_wp rfl (by rfl) ?_)
  · skip
    go_simp
    obtain ⟨U1, hU1⟩ : ∃ z, z = X.alloc (.cells #[] 45) := ⟨_, rfl⟩
    rw [← hU1]
    have AU1 : Below X.heap.size X U1 := by rw [hU1]; exact (Below.refl _ _).alloc (Nat.le_refl _) _
    have sU1 := Lib.hid (show U1.heap.size = X.heap.size + 1 by rw [hU1]; simp)
    have BU1 := Lib.hid (show Below w4.heap.size w4 U1 from BX.out.trans (AU1.mono qX))
    have qU1 : w4.heap.size ≤ U1.heap.size := BU1.out.size
    have EU1 := Lib.hid (show U1.ownsRow w4.heap.size 45 2 (.slice (some ⟨X.heap.size, 0, none⟩) 0 0) 0 [] by rw [hU1]; exact ownsRow_nilT X w4.heap.size 2 qX 45)
    clear hU1 AU1
    refine ⟨HS4.out.keep BU1.out hgs, ?_⟩
    refine wpAnyH_two (i := 2) (j := 5) (by kernel_rfl) (wpOp_wp rfl (by rfl) ?_) (wpOp_wp rfl (by rfl) ?_)
    · skip
      have eU1 := D2.out U1 BU1.out
      go_simp
      clear eU1
      refine ⟨HS4.out.keep BU1.out hgs, ?_⟩
      refine wpAnyH_two (i := 3) (j := 5) (by kernel_rfl) (wpOp_wp rfl (by rfl) ?_) (wpOp_wp rfl (by rfl) ?_)
      · skip
        refine wp_append_sl U1 (.tmp 19) (.tmp 21) 49 rfl w4.heap.size 45 i0 (.agg #[.int .i64 0, .slice none 0 0]) 2 32 Try.underlying49 hi hz0 hz1 hz2 rfl (by decide) (.slice (some ⟨X.heap.size, 0, none⟩) 0 0) 0 [] rfl EU1.out U1.heap.size a ms.length c (cellsM ms) rfl ((IT4.out.below BU1.out (Nat.le_refl _)).mono qU1) (cellsM_one _) (by unfold maxLen; omega) (by omega) qU1 ?_
        intro aU2 cU2 U2 oU2 gU2 _
        simp only [Nat.zero_add, List.nil_append] at oU2 ⊢
        have BU2 := Lib.hid (show Below w4.heap.size w4 U2 from BU1.out.grown gU2 qU1 (fun k hk => (own_lt EU1.out hk).1))
        have qU2 : w4.heap.size ≤ U2.heap.size := BU2.out.size
        have zU2 := gU2.size
        have OU2 := Lib.hid oU2
        clear oU2 gU2
        refine ⟨HS4.out.keep BU2.out hgs, ?_⟩
        refine heldOne 5 (by kernel_rfl) rfl (by rfl) ?_
        go_simp
        obtain ⟨U3, hU3⟩ : ∃ z, z = U2.alloc (.cells #[.int .i64 t, .slice ba b.length bc] 45) := ⟨_, rfl⟩
        rw [← hU3]
        have AU3 : Below U2.heap.size U2 U3 := by rw [hU3]; exact (Below.refl _ _).alloc (Nat.le_refl _) _
        have sU3 := Lib.hid (show U3.heap.size = U2.heap.size + 1 by rw [hU3]; simp)
        have BU3 := Lib.hid (show Below w4.heap.size w4 U3 from BU2.out.trans (AU3.mono qU2))
        have qU3 : w4.heap.size ≤ U3.heap.size := BU3.out.size
        have IU3 := Lib.hid (show SlAt U3 U3.heap.size 2 (some ⟨U2.heap.size, 0, none⟩) 1 1 [.int .i64 t, .slice ba b.length bc] by rw [sU3.out, hU3]; exact slAt_item U2 #[.int .i64 t, .slice ba b.length bc] 45 2 rfl)
        have OU3 := Lib.hid (own_below' OU2.out AU3)
        clear hU3 AU3
        refine ⟨HS4.out.keep BU3.out hgs, ?_⟩
        refine heldOne 6 (by kernel_rfl) rfl (by rfl) ?_
        refine wp_append_sl U3 (.tmp 22) (.tmp 24) 49 rfl w4.heap.size 45 i0 (.agg #[.int .i64 0, .slice none 0 0]) 2 32 Try.underlying49 hi hz0 hz1 hz2 rfl (by decide) (.slice aU2 ms.length cU2) ms.length (cellsM ms) rfl OU3.out U3.heap.size (some ⟨U2.heap.size, 0, none⟩) 1 1 [.int .i64 t, .slice ba b.length bc] rfl IU3.out (by intro u hu; simp at hu; rcases hu with rfl | rfl <;> rfl) (by unfold maxLen; omega) (by omega) qU3 ?_
        intro aU4 cU4 U4 oU4 gU4 _
        have BU4 := Lib.hid (show Below w4.heap.size w4 U4 from BU3.out.grown gU4 qU3 (fun k hk => (own_lt OU3.out hk).1))
        have OU4 := Lib.hid oU4
        clear oU4 gU4
        refine ⟨HS4.out.keep BU4.out hgs, ?_⟩
        generalize U2.heap.size = n1
        generalize X.heap.size = n2
        exact hway U4 n1 n2 aU2 cU2 aU4 cU4 ⟨BU4.out, OU4.out⟩
      · skip
        go_simp
        obtain ⟨U5, hU5⟩ : ∃ z, z = U1.alloc (.cells #[.int .i64 t, .slice ba b.length bc] 45) := ⟨_, rfl⟩
        rw [← hU5]
        have AU5 : Below U1.heap.size U1 U5 := by rw [hU5]; exact (Below.refl _ _).alloc (Nat.le_refl _) _
        have sU5 := Lib.hid (show U5.heap.size = U1.heap.size + 1 by rw [hU5]; simp)
        have BU5 := Lib.hid (show Below w4.heap.size w4 U5 from BU1.out.trans (AU5.mono qU1))
        have qU5 : w4.heap.size ≤ U5.heap.size := BU5.out.size
        have IU5 := Lib.hid (show SlAt U5 U5.heap.size 2 (some ⟨U1.heap.size, 0, none⟩) 1 1 [.int .i64 t, .slice ba b.length bc] by rw [sU5.out, hU5]; exact slAt_item U1 #[.int .i64 t, .slice ba b.length bc] 45 2 rfl)
        have EU5 := Lib.hid (own_below' EU1.out AU5)
        clear hU5 AU5
        refine ⟨HS4.out.keep BU5.out hgs, ?_⟩
        refine heldOne 3 (by kernel_rfl) rfl (by rfl) ?_
        refine wp_append_sl U5 (.tmp 19) (.tmp 21) 49 rfl w4.heap.size 45 i0 (.agg #[.int .i64 0, .slice none 0 0]) 2 32 Try.underlying49 hi hz0 hz1 hz2 rfl (by decide) (.slice (some ⟨X.heap.size, 0, none⟩) 0 0) 0 [] rfl EU5.out U5.heap.size a ms.length c (cellsM ms) rfl ((IT4.out.below BU5.out (Nat.le_refl _)).mono qU5) (cellsM_one _) (by unfold maxLen; omega) (by omega) qU5 ?_
        intro aU6 cU6 U6 oU6 gU6 _
        simp only [Nat.zero_add, List.nil_append] at oU6 ⊢
        have BU6 := Lib.hid (show Below w4.heap.size w4 U6 from BU5.out.grown gU6 qU5 (fun k hk => (own_lt EU5.out hk).1))
        have qU6 : w4.heap.size ≤ U6.heap.size := BU6.out.size
        have zU6 := gU6.size
        have OU6 := Lib.hid oU6
        have IU6 := Lib.hid (sl_grown IU5.out gU6 (fun e9 => by simp [Value.ownBlock] at e9; have := sU1.out; have := sU5.out; omega))
        clear oU6 gU6
        refine ⟨HS4.out.keep BU6.out hgs, ?_⟩
        refine heldOne 6 (by kernel_rfl) rfl (by rfl) ?_
        refine wp_append_sl U6 (.tmp 22) (.tmp 24) 49 rfl w4.heap.size 45 i0 (.agg #[.int .i64 0, .slice none 0 0]) 2 32 Try.underlying49 hi hz0 hz1 hz2 rfl (by decide) (.slice aU6 ms.length cU6) ms.length (cellsM ms) rfl OU6.out U6.heap.size (some ⟨U1.heap.size, 0, none⟩) 1 1 [.int .i64 t, .slice ba b.length bc] rfl IU6.out (by intro u hu; simp at hu; rcases hu with rfl | rfl <;> rfl) (by unfold maxLen; omega) (by omega) qU6 ?_
        intro aU7 cU7 U7 oU7 gU7 _
        have BU7 := Lib.hid (show Below w4.heap.size w4 U7 from BU6.out.grown gU7 qU6 (fun k hk => (own_lt OU6.out hk).1))
        have OU7 := Lib.hid oU7
        clear oU7 gU7
        refine ⟨HS4.out.keep BU7.out hgs, ?_⟩
        generalize U1.heap.size = n1
        generalize X.heap.size = n2
        exact hway U7 n1 n2 aU6 cU6 aU7 cU7 ⟨BU7.out, OU7.out⟩
    · skip
      go_simp
      obtain ⟨U8, hU8⟩ : ∃ z, z = U1.alloc (.cells #[.int .i64 t, .slice ba b.length bc] 45) := ⟨_, rfl⟩
      rw [← hU8]
      have AU8 : Below U1.heap.size U1 U8 := by rw [hU8]; exact (Below.refl _ _).alloc (Nat.le_refl _) _
      have sU8 := Lib.hid (show U8.heap.size = U1.heap.size + 1 by rw [hU8]; simp)
      have BU8 := Lib.hid (show Below w4.heap.size w4 U8 from BU1.out.trans (AU8.mono qU1))
      have qU8 : w4.heap.size ≤ U8.heap.size := BU8.out.size
      have IU8 := Lib.hid (show SlAt U8 U8.heap.size 2 (some ⟨U1.heap.size, 0, none⟩) 1 1 [.int .i64 t, .slice ba b.length bc] by rw [sU8.out, hU8]; exact slAt_item U1 #[.int .i64 t, .slice ba b.length bc] 45 2 rfl)
      have EU8 := Lib.hid (own_below' EU1.out AU8)
      clear hU8 AU8
      refine ⟨HS4.out.keep BU8.out hgs, ?_⟩
      refine heldOne 2 (by kernel_rfl) rfl (by rfl) ?_
      have eU8 := D2.out U8 BU8.out
      go_simp
      clear eU8
      refine ⟨HS4.out.keep BU8.out hgs, ?_⟩
      refine heldOne 3 (by kernel_rfl) rfl (by rfl) ?_
      refine wp_append_sl U8 (.tmp 19) (.tmp 21) 49 rfl w4.heap.size 45 i0 (.agg #[.int .i64 0, .slice none 0 0]) 2 32 Try.underlying49 hi hz0 hz1 hz2 rfl (by decide) (.slice (some ⟨X.heap.size, 0, none⟩) 0 0) 0 [] rfl EU8.out U8.heap.size a ms.length c (cellsM ms) rfl ((IT4.out.below BU8.out (Nat.le_refl _)).mono qU8) (cellsM_one _) (by unfold maxLen; omega) (by omega) qU8 ?_
      intro aU9 cU9 U9 oU9 gU9 _
      simp only [Nat.zero_add, List.nil_append] at oU9 ⊢
      have BU9 := Lib.hid (show Below w4.heap.size w4 U9 from BU8.out.grown gU9 qU8 (fun k hk => (own_lt EU8.out hk).1))
      have qU9 : w4.heap.size ≤ U9.heap.size := BU9.out.size
      have zU9 := gU9.size
      have OU9 := Lib.hid oU9
      have IU9 := Lib.hid (sl_grown IU8.out gU9 (fun e9 => by simp [Value.ownBlock] at e9; have := sU1.out; have := sU8.out; omega))
      clear oU9 gU9
      refine ⟨HS4.out.keep BU9.out hgs, ?_⟩
      refine heldOne 6 (by kernel_rfl) rfl (by rfl) ?_
      refine wp_append_sl U9 (.tmp 22) (.tmp 24) 49 rfl w4.heap.size 45 i0 (.agg #[.int .i64 0, .slice none 0 0]) 2 32 Try.underlying49 hi hz0 hz1 hz2 rfl (by decide) (.slice aU9 ms.length cU9) ms.length (cellsM ms) rfl OU9.out U9.heap.size (some ⟨U1.heap.size, 0, none⟩) 1 1 [.int .i64 t, .slice ba b.length bc] rfl IU9.out (by intro u hu; simp at hu; rcases hu with rfl | rfl <;> rfl) (by unfold maxLen; omega) (by omega) qU9 ?_
      intro aU10 cU10 U10 oU10 gU10 _
      have BU10 := Lib.hid (show Below w4.heap.size w4 U10 from BU9.out.grown gU10 qU9 (fun k hk => (own_lt OU9.out hk).1))
      have OU10 := Lib.hid oU10
      clear oU10 gU10
      refine ⟨HS4.out.keep BU10.out hgs, ?_⟩
      generalize U1.heap.size = n1
      generalize X.heap.size = n2
      exact hway U10 n1 n2 aU9 cU9 aU10 cU10 ⟨BU10.out, OU10.out⟩
  · skip
    have eX := D2.out X BX.out
    go_simp
    clear eX
    refine ⟨HS4.out.keep BX.out hgs, ?_⟩
    refine wpAnyH_two (i := 0) (j := 5) (by kernel_rfl) (wpOp_wp rfl (by rfl) ?_) (wpOp_wp rfl (by rfl) ?_)
    · skip
      go_simp
      obtain ⟨U11, hU11⟩ : ∃ z, z = X.alloc (.cells #[] 45) := ⟨_, rfl⟩
      rw [← hU11]
      have AU11 : Below X.heap.size X U11 := by rw [hU11]; exact (Below.refl _ _).alloc (Nat.le_refl _) _
      have sU11 := Lib.hid (show U11.heap.size = X.heap.size + 1 by rw [hU11]; simp)
      have BU11 := Lib.hid (show Below w4.heap.size w4 U11 from BX.out.trans (AU11.mono qX))
      have qU11 : w4.heap.size ≤ U11.heap.size := BU11.out.size
      have EU11 := Lib.hid (show U11.ownsRow w4.heap.size 45 2 (.slice (some ⟨X.heap.size, 0, none⟩) 0 0) 0 [] by rw [hU11]; exact ownsRow_nilT X w4.heap.size 2 qX 45)
      clear hU11 AU11
      refine ⟨HS4.out.keep BU11.out hgs, ?_⟩
      refine wpAnyH_two (i := 3) (j := 5) (by kernel_rfl) (wpOp_wp rfl (by rfl) ?_) (wpOp_wp rfl (by rfl) ?_)
      · skip
        refine wp_append_sl U11 (.tmp 19) (.tmp 21) 49 rfl w4.heap.size 45 i0 (.agg #[.int .i64 0, .slice none 0 0]) 2 32 Try.underlying49 hi hz0 hz1 hz2 rfl (by decide) (.slice (some ⟨X.heap.size, 0, none⟩) 0 0) 0 [] rfl EU11.out U11.heap.size a ms.length c (cellsM ms) rfl ((IT4.out.below BU11.out (Nat.le_refl _)).mono qU11) (cellsM_one _) (by unfold maxLen; omega) (by omega) qU11 ?_
        intro aU12 cU12 U12 oU12 gU12 _
        simp only [Nat.zero_add, List.nil_append] at oU12 ⊢
        have BU12 := Lib.hid (show Below w4.heap.size w4 U12 from BU11.out.grown gU12 qU11 (fun k hk => (own_lt EU11.out hk).1))
        have qU12 : w4.heap.size ≤ U12.heap.size := BU12.out.size
        have zU12 := gU12.size
        have OU12 := Lib.hid oU12
        clear oU12 gU12
        refine ⟨HS4.out.keep BU12.out hgs, ?_⟩
        refine heldOne 5 (by kernel_rfl) rfl (by rfl) ?_
        go_simp
        obtain ⟨U13, hU13⟩ : ∃ z, z = U12.alloc (.cells #[.int .i64 t, .slice ba b.length bc] 45) := ⟨_, rfl⟩
        rw [← hU13]
        have AU13 : Below U12.heap.size U12 U13 := by rw [hU13]; exact (Below.refl _ _).alloc (Nat.le_refl _) _
        have sU13 := Lib.hid (show U13.heap.size = U12.heap.size + 1 by rw [hU13]; simp)
        have BU13 := Lib.hid (show Below w4.heap.size w4 U13 from BU12.out.trans (AU13.mono qU12))
        have qU13 : w4.heap.size ≤ U13.heap.size := BU13.out.size
        have IU13 := Lib.hid (show SlAt U13 U13.heap.size 2 (some ⟨U12.heap.size, 0, none⟩) 1 1 [.int .i64 t, .slice ba b.length bc] by rw [sU13.out, hU13]; exact slAt_item U12 #[.int .i64 t, .slice ba b.length bc] 45 2 rfl)
        have OU13 := Lib.hid (own_below' OU12.out AU13)
        clear hU13 AU13
        refine ⟨HS4.out.keep BU13.out hgs, ?_⟩
        refine heldOne 6 (by kernel_rfl) rfl (by rfl) ?_
        refine wp_append_sl U13 (.tmp 22) (.tmp 24) 49 rfl w4.heap.size 45 i0 (.agg #[.int .i64 0, .slice none 0 0]) 2 32 Try.underlying49 hi hz0 hz1 hz2 rfl (by decide) (.slice aU12 ms.length cU12) ms.length (cellsM ms) rfl OU13.out U13.heap.size (some ⟨U12.heap.size, 0, none⟩) 1 1 [.int .i64 t, .slice ba b.length bc] rfl IU13.out (by intro u hu; simp at hu; rcases hu with rfl | rfl <;> rfl) (by unfold maxLen; omega) (by omega) qU13 ?_
        intro aU14 cU14 U14 oU14 gU14 _
        have BU14 := Lib.hid (show Below w4.heap.size w4 U14 from BU13.out.grown gU14 qU13 (fun k hk => (own_lt OU13.out hk).1))
        have OU14 := Lib.hid oU14
        clear oU14 gU14
        refine ⟨HS4.out.keep BU14.out hgs, ?_⟩
        generalize U12.heap.size = n1
        generalize X.heap.size = n2
        exact hway U14 n1 n2 aU12 cU12 aU14 cU14 ⟨BU14.out, OU14.out⟩
      · skip
        go_simp
        obtain ⟨U15, hU15⟩ : ∃ z, z = U11.alloc (.cells #[.int .i64 t, .slice ba b.length bc] 45) := ⟨_, rfl⟩
        rw [← hU15]
        have AU15 : Below U11.heap.size U11 U15 := by rw [hU15]; exact (Below.refl _ _).alloc (Nat.le_refl _) _
        have sU15 := Lib.hid (show U15.heap.size = U11.heap.size + 1 by rw [hU15]; simp)
        have BU15 := Lib.hid (show Below w4.heap.size w4 U15 from BU11.out.trans (AU15.mono qU11))
        have qU15 : w4.heap.size ≤ U15.heap.size := BU15.out.size
        have IU15 := Lib.hid (show SlAt U15 U15.heap.size 2 (some ⟨U11.heap.size, 0, none⟩) 1 1 [.int .i64 t, .slice ba b.length bc] by rw [sU15.out, hU15]; exact slAt_item U11 #[.int .i64 t, .slice ba b.length bc] 45 2 rfl)
        have EU15 := Lib.hid (own_below' EU11.out AU15)
        clear hU15 AU15
        refine ⟨HS4.out.keep BU15.out hgs, ?_⟩
        refine heldOne 3 (by kernel_rfl) rfl (by rfl) ?_
        refine wp_append_sl U15 (.tmp 19) (.tmp 21) 49 rfl w4.heap.size 45 i0 (.agg #[.int .i64 0, .slice none 0 0]) 2 32 Try.underlying49 hi hz0 hz1 hz2 rfl (by decide) (.slice (some ⟨X.heap.size, 0, none⟩) 0 0) 0 [] rfl EU15.out U15.heap.size a ms.length c (cellsM ms) rfl ((IT4.out.below BU15.out (Nat.le_refl _)).mono qU15) (cellsM_one _) (by unfold maxLen; omega) (by omega) qU15 ?_
        intro aU16 cU16 U16 oU16 gU16 _
        simp only [Nat.zero_add, List.nil_append] at oU16 ⊢
        have BU16 := Lib.hid (show Below w4.heap.size w4 U16 from BU15.out.grown gU16 qU15 (fun k hk => (own_lt EU15.out hk).1))
        have qU16 : w4.heap.size ≤ U16.heap.size := BU16.out.size
        have zU16 := gU16.size
        have OU16 := Lib.hid oU16
        have IU16 := Lib.hid (sl_grown IU15.out gU16 (fun e9 => by simp [Value.ownBlock] at e9; have := sU11.out; have := sU15.out; omega))
        clear oU16 gU16
        refine ⟨HS4.out.keep BU16.out hgs, ?_⟩
        refine heldOne 6 (by kernel_rfl) rfl (by rfl) ?_
        refine wp_append_sl U16 (.tmp 22) (.tmp 24) 49 rfl w4.heap.size 45 i0 (.agg #[.int .i64 0, .slice none 0 0]) 2 32 Try.underlying49 hi hz0 hz1 hz2 rfl (by decide) (.slice aU16 ms.length cU16) ms.length (cellsM ms) rfl OU16.out U16.heap.size (some ⟨U11.heap.size, 0, none⟩) 1 1 [.int .i64 t, .slice ba b.length bc] rfl IU16.out (by intro u hu; simp at hu; rcases hu with rfl | rfl <;> rfl) (by unfold maxLen; omega) (by omega) qU16 ?_
        intro aU17 cU17 U17 oU17 gU17 _
        have BU17 := Lib.hid (show Below w4.heap.size w4 U17 from BU16.out.grown gU17 qU16 (fun k hk => (own_lt OU16.out hk).1))
        have OU17 := Lib.hid oU17
        clear oU17 gU17
        refine ⟨HS4.out.keep BU17.out hgs, ?_⟩
        generalize U11.heap.size = n1
        generalize X.heap.size = n2
        exact hway U17 n1 n2 aU16 cU16 aU17 cU17 ⟨BU17.out, OU17.out⟩
    · skip
      go_simp
      obtain ⟨U18, hU18⟩ : ∃ z, z = X.alloc (.cells #[.int .i64 t, .slice ba b.length bc] 45) := ⟨_, rfl⟩
      rw [← hU18]
      have AU18 : Below X.heap.size X U18 := by rw [hU18]; exact (Below.refl _ _).alloc (Nat.le_refl _) _
      have sU18 := Lib.hid (show U18.heap.size = X.heap.size + 1 by rw [hU18]; simp)
      have BU18 := Lib.hid (show Below w4.heap.size w4 U18 from BX.out.trans (AU18.mono qX))
      have qU18 : w4.heap.size ≤ U18.heap.size := BU18.out.size
      have IU18 := Lib.hid (show SlAt U18 U18.heap.size 2 (some ⟨X.heap.size, 0, none⟩) 1 1 [.int .i64 t, .slice ba b.length bc] by rw [sU18.out, hU18]; exact slAt_item X #[.int .i64 t, .slice ba b.length bc] 45 2 rfl)
      clear hU18 AU18
      refine ⟨HS4.out.keep BU18.out hgs, ?_⟩
      refine heldOne 0 (by kernel_rfl) rfl (by rfl) ?_
      go_simp
      obtain ⟨U19, hU19⟩ : ∃ z, z = U18.alloc (.cells #[] 45) := ⟨_, rfl⟩
      rw [← hU19]
      have AU19 : Below U18.heap.size U18 U19 := by rw [hU19]; exact (Below.refl _ _).alloc (Nat.le_refl _) _
      have sU19 := Lib.hid (show U19.heap.size = U18.heap.size + 1 by rw [hU19]; simp)
      have BU19 := Lib.hid (show Below w4.heap.size w4 U19 from BU18.out.trans (AU19.mono qU18))
      have qU19 : w4.heap.size ≤ U19.heap.size := BU19.out.size
      have EU19 := Lib.hid (show U19.ownsRow w4.heap.size 45 2 (.slice (some ⟨U18.heap.size, 0, none⟩) 0 0) 0 [] by rw [hU19]; exact ownsRow_nilT U18 w4.heap.size 2 qU18 45)
      have IU19 := Lib.hid ((IU18.out.below AU19 (Nat.le_refl _)).mono AU19.size)
      clear hU19 AU19
      refine ⟨HS4.out.keep BU19.out hgs, ?_⟩
      refine heldOne 3 (by kernel_rfl) rfl (by rfl) ?_
      refine wp_append_sl U19 (.tmp 19) (.tmp 21) 49 rfl w4.heap.size 45 i0 (.agg #[.int .i64 0, .slice none 0 0]) 2 32 Try.underlying49 hi hz0 hz1 hz2 rfl (by decide) (.slice (some ⟨U18.heap.size, 0, none⟩) 0 0) 0 [] rfl EU19.out U19.heap.size a ms.length c (cellsM ms) rfl ((IT4.out.below BU19.out (Nat.le_refl _)).mono qU19) (cellsM_one _) (by unfold maxLen; omega) (by omega) qU19 ?_
      intro aU20 cU20 U20 oU20 gU20 _
      simp only [Nat.zero_add, List.nil_append] at oU20 ⊢
      have BU20 := Lib.hid (show Below w4.heap.size w4 U20 from BU19.out.grown gU20 qU19 (fun k hk => (own_lt EU19.out hk).1))
      have qU20 : w4.heap.size ≤ U20.heap.size := BU20.out.size
      have zU20 := gU20.size
      have OU20 := Lib.hid oU20
      have IU20 := Lib.hid (sl_grown IU19.out gU20 (fun e9 => by simp [Value.ownBlock] at e9; have := sU18.out; have := sU19.out; omega))
      clear oU20 gU20
      refine ⟨HS4.out.keep BU20.out hgs, ?_⟩
      refine heldOne 6 (by kernel_rfl) rfl (by rfl) ?_
      refine wp_append_sl U20 (.tmp 22) (.tmp 24) 49 rfl w4.heap.size 45 i0 (.agg #[.int .i64 0, .slice none 0 0]) 2 32 Try.underlying49 hi hz0 hz1 hz2 rfl (by decide) (.slice aU20 ms.length cU20) ms.length (cellsM ms) rfl OU20.out U20.heap.size (some ⟨X.heap.size, 0, none⟩) 1 1 [.int .i64 t, .slice ba b.length bc] rfl IU20.out (by intro u hu; simp at hu; rcases hu with rfl | rfl <;> rfl) (by unfold maxLen; omega) (by omega) qU20 ?_
      intro aU21 cU21 U21 oU21 gU21 _
      have BU21 := Lib.hid (show Below w4.heap.size w4 U21 from BU20.out.grown gU21 qU20 (fun k hk => (own_lt OU20.out hk).1))
      have OU21 := Lib.hid oU21
      clear oU21 gU21
      refine ⟨HS4.out.keep BU21.out hgs, ?_⟩
      generalize X.heap.size = n1
      generalize U18.heap.size = n2
      exact hway U21 n1 n2 aU20 cU20 aU21 cU21 ⟨BU21.out, OU21.out⟩
  · skip
    go_simp
    obtain ⟨U22, hU22⟩ : ∃ z, z = X.alloc (.cells #[.int .i64 t, .slice ba b.length bc] 45) := ⟨_, rfl⟩
    rw [← hU22]
    have AU22 : Below X.heap.size X U22 := by rw [hU22]; exact (Below.refl _ _).alloc (Nat.le_refl _) _
    have sU22 := Lib.hid (show U22.heap.size = X.heap.size + 1 by rw [hU22]; simp)
    have BU22 := Lib.hid (show Below w4.heap.size w4 U22 from BX.out.trans (AU22.mono qX))
    have qU22 : w4.heap.size ≤ U22.heap.size := BU22.out.size
    have IU22 := Lib.hid (show SlAt U22 U22.heap.size 2 (some ⟨X.heap.size, 0, none⟩) 1 1 [.int .i64 t, .slice ba b.length bc] by rw [sU22.out, hU22]; exact slAt_item X #[.int .i64 t, .slice ba b.length bc] 45 2 rfl)
    clear hU22 AU22
    refine ⟨HS4.out.keep BU22.out hgs, ?_⟩
    refine wpAnyH_two (i := 0) (j := 2) (by kernel_rfl) (wpOp_wp rfl (by rfl) ?_) (wpOp_wp rfl (by rfl) ?_)
    · skip
      go_simp
      obtain ⟨U23, hU23⟩ : ∃ z, z = U22.alloc (.cells #[] 45) := ⟨_, rfl⟩
      rw [← hU23]
      have AU23 : Below U22.heap.size U22 U23 := by rw [hU23]; exact (Below.refl _ _).alloc (Nat.le_refl _) _
      have sU23 := Lib.hid (show U23.heap.size = U22.heap.size + 1 by rw [hU23]; simp)
      have BU23 := Lib.hid (show Below w4.heap.size w4 U23 from BU22.out.trans (AU23.mono qU22))
      have qU23 : w4.heap.size ≤ U23.heap.size := BU23.out.size
      have EU23 := Lib.hid (show U23.ownsRow w4.heap.size 45 2 (.slice (some ⟨U22.heap.size, 0, none⟩) 0 0) 0 [] by rw [hU23]; exact ownsRow_nilT U22 w4.heap.size 2 qU22 45)
      have IU23 := Lib.hid ((IU22.out.below AU23 (Nat.le_refl _)).mono AU23.size)
      clear hU23 AU23
      refine ⟨HS4.out.keep BU23.out hgs, ?_⟩
      refine heldOne 2 (by kernel_rfl) rfl (by rfl) ?_
      have eU23 := D2.out U23 BU23.out
      go_simp
      clear eU23
      refine ⟨HS4.out.keep BU23.out hgs, ?_⟩
      refine heldOne 3 (by kernel_rfl) rfl (by rfl) ?_
      refine wp_append_sl U23 (.tmp 19) (.tmp 21) 49 rfl w4.heap.size 45 i0 (.agg #[.int .i64 0, .slice none 0 0]) 2 32 Try.underlying49 hi hz0 hz1 hz2 rfl (by decide) (.slice (some ⟨U22.heap.size, 0, none⟩) 0 0) 0 [] rfl EU23.out U23.heap.size a ms.length c (cellsM ms) rfl ((IT4.out.below BU23.out (Nat.le_refl _)).mono qU23) (cellsM_one _) (by unfold maxLen; omega) (by omega) qU23 ?_
      intro aU24 cU24 U24 oU24 gU24 _
      simp only [Nat.zero_add, List.nil_append] at oU24 ⊢
      have BU24 := Lib.hid (show Below w4.heap.size w4 U24 from BU23.out.grown gU24 qU23 (fun k hk => (own_lt EU23.out hk).1))
      have qU24 : w4.heap.size ≤ U24.heap.size := BU24.out.size
      have zU24 := gU24.size
      have OU24 := Lib.hid oU24
      have IU24 := Lib.hid (sl_grown IU23.out gU24 (fun e9 => by simp [Value.ownBlock] at e9; have := sU22.out; have := sU23.out; omega))
      clear oU24 gU24
      refine ⟨HS4.out.keep BU24.out hgs, ?_⟩
      refine heldOne 6 (by kernel_rfl) rfl (by rfl) ?_
      refine wp_append_sl U24 (.tmp 22) (.tmp 24) 49 rfl w4.heap.size 45 i0 (.agg #[.int .i64 0, .slice none 0 0]) 2 32 Try.underlying49 hi hz0 hz1 hz2 rfl (by decide) (.slice aU24 ms.length cU24) ms.length (cellsM ms) rfl OU24.out U24.heap.size (some ⟨X.heap.size, 0, none⟩) 1 1 [.int .i64 t, .slice ba b.length bc] rfl IU24.out (by intro u hu; simp at hu; rcases hu with rfl | rfl <;> rfl) (by unfold maxLen; omega) (by omega) qU24 ?_
      intro aU25 cU25 U25 oU25 gU25 _
      have BU25 := Lib.hid (show Below w4.heap.size w4 U25 from BU24.out.grown gU25 qU24 (fun k hk => (own_lt OU24.out hk).1))
      have OU25 := Lib.hid oU25
      clear oU25 gU25
      refine ⟨HS4.out.keep BU25.out hgs, ?_⟩
      generalize X.heap.size = n1
      generalize U22.heap.size = n2
      exact hway U25 n1 n2 aU24 cU24 aU25 cU25 ⟨BU25.out, OU25.out⟩
    · skip
      have eU22 := D2.out U22 BU22.out
      go_simp
      clear eU22
      refine ⟨HS4.out.keep BU22.out hgs, ?_⟩
      refine heldOne 0 (by kernel_rfl) rfl (by rfl) ?_
      go_simp
      obtain ⟨U26, hU26⟩ : ∃ z, z = U22.alloc (.cells #[] 45) := ⟨_, rfl⟩
      rw [← hU26]
      have AU26 : Below U22.heap.size U22 U26 := by rw [hU26]; exact (Below.refl _ _).alloc (Nat.le_refl _) _
      have sU26 := Lib.hid (show U26.heap.size = U22.heap.size + 1 by rw [hU26]; simp)
      have BU26 := Lib.hid (show Below w4.heap.size w4 U26 from BU22.out.trans (AU26.mono qU22))
      have qU26 : w4.heap.size ≤ U26.heap.size := BU26.out.size
      have EU26 := Lib.hid (show U26.ownsRow w4.heap.size 45 2 (.slice (some ⟨U22.heap.size, 0, none⟩) 0 0) 0 [] by rw [hU26]; exact ownsRow_nilT U22 w4.heap.size 2 qU22 45)
      have IU26 := Lib.hid ((IU22.out.below AU26 (Nat.le_refl _)).mono AU26.size)
      clear hU26 AU26
      refine ⟨HS4.out.keep BU26.out hgs, ?_⟩
      refine heldOne 3 (by kernel_rfl) rfl (by rfl) ?_
      refine wp_append_sl U26 (.tmp 19) (.tmp 21) 49 rfl w4.heap.size 45 i0 (.agg #[.int .i64 0, .slice none 0 0]) 2 32 Try.underlying49 hi hz0 hz1 hz2 rfl (by decide) (.slice (some ⟨U22.heap.size, 0, none⟩) 0 0) 0 [] rfl EU26.out U26.heap.size a ms.length c (cellsM ms) rfl ((IT4.out.below BU26.out (Nat.le_refl _)).mono qU26) (cellsM_one _) (by unfold maxLen; omega) (by omega) qU26 ?_
      intro aU27 cU27 U27 oU27 gU27 _
      simp only [Nat.zero_add, List.nil_append] at oU27 ⊢
      have BU27 := Lib.hid (show Below w4.heap.size w4 U27 from BU26.out.grown gU27 qU26 (fun k hk => (own_lt EU26.out hk).1))
      have qU27 : w4.heap.size ≤ U27.heap.size := BU27.out.size
      have zU27 := gU27.size
      have OU27 := Lib.hid oU27
      have IU27 := Lib.hid (sl_grown IU26.out gU27 (fun e9 => by simp [Value.ownBlock] at e9; have := sU22.out; have := sU26.out; omega))
      clear oU27 gU27
      refine ⟨HS4.out.keep BU27.out hgs, ?_⟩
      refine heldOne 6 (by kernel_rfl) rfl (by rfl) ?_
      refine wp_append_sl U27 (.tmp 22) (.tmp 24) 49 rfl w4.heap.size 45 i0 (.agg #[.int .i64 0, .slice none 0 0]) 2 32 Try.underlying49 hi hz0 hz1 hz2 rfl (by decide) (.slice aU27 ms.length cU27) ms.length (cellsM ms) rfl OU27.out U27.heap.size (some ⟨X.heap.size, 0, none⟩) 1 1 [.int .i64 t, .slice ba b.length bc] rfl IU27.out (by intro u hu; simp at hu; rcases hu with rfl | rfl <;> rfl) (by unfold maxLen; omega) (by omega) qU27 ?_
      intro aU28 cU28 U28 oU28 gU28 _
      have BU28 := Lib.hid (show Below w4.heap.size w4 U28 from BU27.out.grown gU28 qU27 (fun k hk => (own_lt OU27.out hk).1))
      have OU28 := Lib.hid oU28
      clear oU28 gU28
      refine ⟨HS4.out.keep BU28.out hgs, ?_⟩
      generalize X.heap.size = n1
      generalize U22.heap.size = n2
      exact hway U28 n1 n2 aU27 cU27 aU28 cU28 ⟨BU28.out, OU28.out⟩
  · intro U n1 n2 a1 c1 a2 c2 hF
    have HB5 := Lib.hid hF.1
    have HO5 := Lib.hid hF.2
    have hsU := hF.1.size
    have hSU := HS4.out.keep HB5.out hgs
    clear hF
    refine heldTake 7 26 rfl rfl (by kernel_rfl) (by kernel_rfl) (by kernel_rfl) (fun _ _ _ h => h) hSU (.inl ⟨by rfl, by intro w' hS; obtain ⟨s1, s2⟩ := hS; go_simp; (try rfl)⟩) ?_
    simp only [List.set_cons_zero, List.set_cons_succ]
    have p2 := D2.out U HB5.out
    have rU : U.heap[w.heap.size]? = some (.cells #[.int .i64 x.base, .int .i64 x.term, .slice a ms.length c] 88 (0, 0)) := (HB5.out.block _ hg0).trans HR4.out
    have fU : U.frozen? ⟨w.heap.size, 2, none⟩ = false := by simp [World.frozen?, rU]
    refine heldOne 8 (by kernel_rfl) rfl (by rfl) ?_
    refine wp_store_cell 49 (.tmp 26) (.tmp 25) rfl w.heap.size 2 (.slice a2 (ms.length + 1) c2) _ rfl rfl rfl infoItems1 p2 fU ?_
    refine ⟨hSU.set (by omega) _, wpAnyH_done (by kernel_rfl) ?_ _⟩
    clear hSU p2
    obtain ⟨V, hV⟩ : ∃ V, V = U.setCell ⟨w.heap.size, 2, none⟩ (.slice a2 (ms.length + 1) c2) := ⟨_, rfl⟩
    have rV : V.heap[w.heap.size]? = some (.cells #[.int .i64 x.base, .int .i64 x.term, .slice a2 (ms.length + 1) c2] 88 (0, 0)) := by
      rw [hV]
      have h9 := heap_setCell_same U w.heap.size 2 _ _ (.slice a2 (ms.length + 1) c2) rU
      simpa using h9
    have oV : ∀ k, k ≠ w.heap.size → V.heap[k]? = U.heap[k]? := fun k hk => by rw [hV]; exact Below.heap_setCell _ _ _ k hk
    have sV : V.heap.size = U.heap.size := by rw [hV]; simp
    have eV : V.os = U.os ∧ V.tape = U.tape ∧ V.output = U.output := by rw [hV]; exact ⟨rfl, rfl, rfl⟩
    have bV : Below w.heap.size U V := ⟨eV.1, eV.2.1, eV.2.2, by omega, fun k hk => oV k (by omega)⟩
    have HBV := Lib.hid (show Below w.heap.size w V from HB4.out.trans ((HB5.out.mono (by omega)).trans bV))
    have HR2V := Lib.hid (show V.heap[w.heap.size + 2]? = some (.cells #[.int .i64 0, .int .i64 0, .slice none 0 0] 88 (0, 0)) from (oV _ (by omega)).trans ((HB5.out.block _ (by omega)).trans HD4.out))
    have HOV := Lib.hid (World.ownsRow.kept HO5.out (w' := V) (row := some w.heap.size) ⟨eV.1, eV.2.1, eV.2.2, by omega, fun k hk hne => oV k (fun e => hne (by rw [e]))⟩ (.inr fun e => by have h9 := (own_lt HO5.out e).1; omega))
    have HRV := Lib.hid rV
    have HE9 := Lib.hid (show PLine.Good ⟨x.base, x.term, x.l ++ [(t, b)]⟩ from by have h9 := hg.add (t, b); rw [HE.out] at h9; exact h9)
    have HLN := Lib.hid (show ms.length + 1 = (PLine.mk x.base x.term (x.l ++ [(t, b)])).l.length by simp [H.out.len])
    have HLA := Lib.hid (show PLine.last ⟨x.base, x.term, x.l ++ [(t, b)]⟩ = x.last + 1 by simp [PLine.last]; omega)
    have hwV : w.heap.size + 3 ≤ V.heap.size := by omega
    have hwU : w4.heap.size ≤ V.heap.size := by omega
    refine (show Exit.then _ _ _ _ (U.setCell ⟨w.heap.size, 2, none⟩ (.slice a2 (ms.length + 1) c2)) from ?_)
    rw [← hV]
    clear hV oV sV eV bV rV rU fU hsU
    go_wp2_with fail
    refine wp_region_any (by kernel_rfl) ?_
    refine wpAny_of_held (S := fun W => W.heap[w.heap.size]? = some (.cells #[.int .i64 x.base, .int .i64 x.term, .slice a2 (ms.length + 1) c2] 88 (0, 0))) _ _ _ _ ?_
    have hS0 : (fun W : World => W.heap[w.heap.size]? = some (.cells #[.int .i64 x.base, .int .i64 x.term, .slice a2 (ms.length + 1) c2] 88 (0, 0))) V.drew := HRV.out
    refine heldTake 0 27 rfl rfl (by kernel_rfl) (by kernel_rfl) (by kernel_rfl) (fun _ _ _ h => h) hS0 (yieldsIf_load_is (by rfl) 88 (.tmp 2) rfl w.heap.size rfl 88 #[.int .i64 x.base, .int .i64 x.term, .slice a2 (ms.length + 1) c2] _ (fun _ h => h) Try.underlying88 rfl infoRLine) ?_
    refine heldTake 1 28 rfl rfl (by kernel_rfl) (by kernel_rfl) (by kernel_rfl) (fun _ _ _ h => h) hS0 (yieldsIf_load_is (by rfl) 88 (.tmp 2) rfl w.heap.size rfl 88 #[.int .i64 x.base, .int .i64 x.term, .slice a2 (ms.length + 1) c2] _ (fun _ h => h) Try.underlying88 rfl infoRLine) ?_
    refine heldOne 2 (by kernel_rfl) rfl (by rfl) ?_
    clear hS0
    go_simp
    refine (r17Last ⟨x.base, x.term, x.l ++ [(t, b)]⟩ HE9.out a2 (ms.length + 1) c2 HLN.out _).mono ?_
    rintro e w6 ⟨rfl, hb6⟩
    have hs6 := hb6.size
    have hd6 : Below V.heap.size V w6 := (show Below V.heap.size V V.drew from (Below.refl _ _).drew).trans hb6
    have rV6 := (hd6.block w.heap.size (by omega)).trans HRV.out
    have HR26 := Lib.hid ((hd6.block (w.heap.size + 2) (by omega)).trans HR2V.out)
    have HB6 := Lib.hid (HBV.out.trans (hd6.mono (by omega)))
    have HO6 := Lib.hid (own_below' HOV.out hd6)
    have hs7 : V.heap.size ≤ w6.heap.size := hd6.size
    refine ⟨rV6, ?_⟩
    clear hb6 hd6
    rw [HLA.out]
    refine heldOne 3 (by kernel_rfl) rfl (by rfl) ?_
    refine wp_store_row 88 (.tmp 4) (.tmp 27) rfl (w.heap.size + 2) #[.int .i64 x.base, .int .i64 x.term, .slice a2 (ms.length + 1) c2] rfl rfl 88 _ HR26.out infoRLine rfl (by simp [Value.oneCell']) ?_
    have hbs7 := below_setRow w6 (cs := #[.int .i64 x.base, .int .i64 x.term, .slice a2 (ms.length + 1) c2]) (g := w.heap.size + 2) (B := w.heap.size) (by omega)
    have hr7 := setRow_heap w6 (w.heap.size + 2) _ #[.int .i64 x.base, .int .i64 x.term, .slice a2 (ms.length + 1) c2] 88 _ HR26.out
    have rV7 : (w6.setRow (w.heap.size + 2) #[.int .i64 x.base, .int .i64 x.term, .slice a2 (ms.length + 1) c2]).heap[w.heap.size]? = _ := (setRow_other _ _ _ _ (by omega)).trans rV6
    have HR7 := Lib.hid hr7
    have HBF := Lib.hid (HB6.out.trans hbs7)
    have HOF := Lib.hid (World.ownsRow.kept HO6.out (row := some (w.heap.size + 2)) (w' := w6.setRow (w.heap.size + 2) #[.int .i64 x.base, .int .i64 x.term, .slice a2 (ms.length + 1) c2]) ⟨rfl, rfl, rfl, by simp, fun k hk hne => setRow_other _ _ _ _ (fun e => hne (by rw [e]))⟩ (.inr fun e => by have h9 := (own_lt HO6.out e).1; omega))
    clear hbs7 hr7 rV6
    refine ⟨rV7, ?_⟩
    refine heldTake 4 5 rfl rfl (by kernel_rfl) (by kernel_rfl) (by kernel_rfl) (fun _ _ _ h => h) rV7 (.inl ⟨by rfl, by intro w' hS; clear hS; go_simp; (try rfl)⟩) ?_
    simp only [List.set_cons_zero, List.set_cons_succ]
    refine wpAnyH_done (by kernel_rfl) ?_ _
    clear rV7
    go_wp2
    refine bodyPost_ret (results_row_tmp rfl _ _ (w.heap.size + 2) 88 _ (0, 0) _ rfl HR7.out Try.underlying88 rfl infoRLine) rfl ?_
    unfold RAddTo
    rw [HE.out]
    refine ⟨a2, c2, ms ++ [⟨t, ba, b.length, bc, b⟩], by simp, ⟨?_, by simp [H.out.eq]⟩, HBF.out, Fresh.own HOF.out (by omega), fun m hm => by simpa using hm⟩
    refine itemsOf HOF.out (ms := ms ++ [⟨t, ba, b.length, bc, b⟩]) (by simp) (by rw [cellsM_append]; rfl) fun m hm => ?_
    simp at hm
    rcases hm with hm | rfl
    · exact ((H.out.its.bs m hm).below HBF.out (Nat.le_refl _)).mono HBF.out.size
    · exact (HBS.out.below HBF.out (Nat.le_refl _)).mono HBF.out.size
end Go.Proofs.Ytogcnfhmcpkdcaa
