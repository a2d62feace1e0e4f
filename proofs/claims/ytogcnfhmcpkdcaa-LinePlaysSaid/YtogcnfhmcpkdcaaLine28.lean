/-
  The law LinePlays: the walk.
-/
import Derived.Test.YtogcnfhmcpkdcaaLine5
import Derived.Test.YtogcnfhmcpkdcaaLine6
import Derived.Test.YtogcnfhmcpkdcaaLine9
import Derived.Test.YtogcnfhmcpkdcaaLine14
import Derived.Test.YtogcnfhmcpkdcaaLine21
import Derived.Test.YtogcnfhmcpkdcaaLine26
import Derived.Test.YtogcnfhmcpkdcaaLine27
namespace Go.Proofs.Ytogcnfhmcpkdcaa
open Go.RowKit
set_option linter.unusedVariables false
set_option linter.unusedSimpArgs false

theorem actCells {W : World} {g : Nat} {d i n : Int} {a : Option Addr} {k c : Nat} (h : W.heap[g]? = some (.cells #[.int .i64 d, .int .i64 i, .int .i64 n, .slice a k c] 90 (0, 0))) :
    W.cell? ⟨g, 0, none⟩ = some (.int .i64 d) ∧ W.cell? ⟨g, 1, none⟩ = some (.int .i64 i) ∧ W.cell? ⟨g, 2, none⟩ = some (.int .i64 n) ∧ W.cell? ⟨g, 3, none⟩ = some (.slice a k c) :=
  ⟨cell_of_row W g 0 _ _ _ h, cell_of_row W g 1 _ _ _ h, cell_of_row W g 2 _ _ _ h, cell_of_row W g 3 _ _ _ h⟩
theorem lineCells {W : World} {g : Nat} {d i : Int} {a : Option Addr} {k c : Nat} (h : W.heap[g]? = some (.cells #[.int .i64 d, .int .i64 i, .slice a k c] 88 (0, 0))) :
    W.cell? ⟨g, 0, none⟩ = some (.int .i64 d) ∧ W.cell? ⟨g, 1, none⟩ = some (.int .i64 i) ∧ W.cell? ⟨g, 2, none⟩ = some (.slice a k c) :=
  ⟨cell_of_row W g 0 _ _ _ h, cell_of_row W g 1 _ _ _ h, cell_of_row W g 2 _ _ _ h⟩

theorem PLine.from_len (x : PLine) (i most : Int) : (x.from_ i most).length ≤ x.l.length := by
  unfold PLine.from_
  split
  · simp
  · simp; omega

/-- what the drawn region of From reads -/
structure FrS (g gA : Nat) (X : PLine) (ra : Option Addr) (n rc : Nat) (i k : Int) (W : World) : Prop where
  r0 : W.heap[g]? = some (.cells #[.int .i64 X.base, .int .i64 X.term, .slice ra n rc] 88 (0, 0))
  a1 : W.cell? ⟨gA, 1, none⟩ = some (.int .i64 i)
  a2 : W.cell? ⟨gA, 2, none⟩ = some (.int .i64 k)
theorem FrS.keep {g gA : Nat} {X : PLine} {ra : Option Addr} {n rc : Nat} {i k : Int} {W W' : World} (h : FrS g gA X ra n rc i k W) {N : Nat} (hb : Below N W W') (h1 : g < N) (h2 : gA < N) : FrS g gA X ra n rc i k W' :=
  ⟨(hb.block _ h1).trans h.r0, (hb.cell (p := ⟨gA, _, none⟩) h2).trans h.a1, (hb.cell (p := ⟨gA, _, none⟩) h2).trans h.a2⟩

/-- ways that meet: what comes behind them is walked once -/
theorem way5 {A1 A2 A3 A4 A5 : Type} {G : A1 → A2 → A3 → A4 → A5 → Prop} {P : Prop} (F : A1 → A2 → A3 → A4 → A5 → Prop)
    (main : (∀ x1 x2 x3 x4 x5, F x1 x2 x3 x4 x5 → G x1 x2 x3 x4 x5) → P) (key : ∀ x1 x2 x3 x4 x5, F x1 x2 x3 x4 x5 → G x1 x2 x3 x4 x5) : P := main key

/-- the document's line behind a store into a block that is not its own -/
theorem RAt.setBox {U W : World} {Y : PLine} {ra : Option Addr} {rc : Nat} {rs : List MItem} {bx B : Nat} (h : RAt U U.heap.size Y ra rc rs) (hap : ∀ ad, ra = some ad → ad.block ≠ bx) (hin : ∀ m ∈ rs, m.Bs U B) (hB : B ≤ bx)
    (ho : ∀ k, k ≠ bx → W.heap[k]? = U.heap[k]?) (hb : Below bx U W) (hs : W.heap.size = U.heap.size) : RAt W W.heap.size Y ra rc rs := by
  refine ⟨⟨?_, fun m hm => ?_⟩, h.eq⟩
  · have h9 := h.its.sl
    refine ⟨h9.hlen, h9.hle, h9.hmax, h9.hnil, fun hp => ?_⟩
    obtain ⟨b, o, e, hb9, hc⟩ := h9.hat hp
    exact ⟨b, o, e, by omega, fun i hi => (World.cell?_of_block (a := ⟨b, o + i, none⟩) (ho b (hap _ e))).trans (hc i hi)⟩
  · have h9 := (hin m hm).below hb hB
    have h8 := h.its.bs m hm
    refine ⟨h8.hlen, h8.hle, h8.hmax, h8.hnil, h8.hbig, fun hp => ?_⟩
    obtain ⟨b, o, e, hb9, hc⟩ := h8.hat hp
    obtain ⟨b', o', e', hb', hc'⟩ := h9.hat hp
    rw [e] at e'
    injection e' with e'
    injection e' with e1 e2 _
    subst e1 e2
    exact ⟨b, o, e, by omega, hc'⟩

/-- an item's cells -/
structure ItemS (b o : Nat) (m : MItem) (W : World) : Prop where
  k0 : W.cell? ⟨b, o, none⟩ = some (.int .i64 m.t)
  k1 : W.cell? ⟨b, o + 1, none⟩ = some (.slice m.a m.b.length m.c)
theorem ItemS.keep {b o : Nat} {m : MItem} {W W' : World} (h : ItemS b o m W) {N : Nat} (hb : Below N W W') (h1 : b < N) : ItemS b o m W' :=
  ⟨(hb.cell (p := ⟨b, _, none⟩) h1).trans h.k0, (hb.cell (p := ⟨b, _, none⟩) h1).trans h.k1⟩
/-- what the drawn region of Add reads -/
structure AdS (g gA : Nat) (X : PLine) (ra : Option Addr) (n rc : Nat) (sl : Value) (b o : Nat) (m : MItem) (W : World) : Prop where
  r0 : W.heap[g]? = some (.cells #[.int .i64 X.base, .int .i64 X.term, .slice ra n rc] 88 (0, 0))
  a3 : W.cell? ⟨gA, 3, none⟩ = some sl
  k0 : W.cell? ⟨b, o, none⟩ = some (.int .i64 m.t)
  k1 : W.cell? ⟨b, o + 1, none⟩ = some (.slice m.a m.b.length m.c)
theorem AdS.keep {g gA : Nat} {X : PLine} {ra : Option Addr} {n rc : Nat} {sl : Value} {b o : Nat} {m : MItem} {W W' : World} (h : AdS g gA X ra n rc sl b o m W) {N : Nat} (hb : Below N W W') (h1 : g < N) (h2 : gA < N) (h3 : b < N) : AdS g gA X ra n rc sl b o m W' :=
  ⟨(hb.block _ h1).trans h.r0, (hb.cell (p := ⟨gA, _, none⟩) h2).trans h.a3, (hb.cell (p := ⟨b, _, none⟩) h3).trans h.k0, (hb.cell (p := ⟨b, _, none⟩) h3).trans h.k1⟩

set_option maxRecDepth 100000 in
set_option maxHeartbeats 4000000 in
theorem linePlays_calls (base term : Int) (l : List MAct) (a : Option Addr) (c : Nat) (w : World) (h : SlAt w w.heap.size 4 a l.length c (cellsA l)) (hx : ∀ x ∈ l, x.Is w w.heap.size) :
    Calls Try.prog 10 #[.int .i64 base, .int .i64 term, .slice a l.length c] w fun e w' => e = .returned (.bool true) ∧ Below w.heap.size w w' := by
  obtain ⟨G, hG⟩ : ∃ G, greatA l = G := ⟨_, rfl⟩
  have HG := Lib.hid hG
  have H := Lib.hid h
  have HX := Lib.hid hx
  cases G with
  | true =>
    clear hG h hx
    go_enter Try.func10, Try.ntmps10
    go_wp2_with fail
    refine (l17great l a c w H.out HX.out).mono ?_
    rintro e w1 ⟨rfl, rfl⟩
    rw [HG.out]
    go_wp2_with fail
    refine (l17awake _).mono ?_
    rintro e w1 ⟨rfl, hb1⟩
    have HB1 := Lib.hid hb1
    clear hb1
    go_wp2
    go_ret
    exact ⟨rfl, HB1.out⟩
  | false =>
    obtain ⟨hl40, hits⟩ := greatA_no hG
    obtain ⟨N, hN⟩ : ∃ N, isNew base term = N := ⟨_, rfl⟩
    have HN := Lib.hid hN
    cases N with
    | false =>
      have hno : ¬ (0 ≤ base ∧ base ≤ 1099511627776 ∧ 0 ≤ term ∧ term ≤ 1099511627776) := by
        intro h9
        have := (isNew_iff base term).2 (by omega)
        rw [this] at hN; cases hN
      clear hG h hx hN
      obtain ⟨b1, hb1⟩ : ∃ b, decide (0 ≤ base) = b := ⟨_, rfl⟩
      obtain ⟨b2, hb2⟩ : ∃ b, decide (base ≤ 1099511627776) = b := ⟨_, rfl⟩
      obtain ⟨b3, hb3⟩ : ∃ b, decide (0 ≤ term) = b := ⟨_, rfl⟩
      obtain ⟨b4, hb4⟩ : ∃ b, decide (term ≤ 1099511627776) = b := ⟨_, rfl⟩
      cases b1 <;> cases b2 <;> cases b3 <;> cases b4
      all_goals first
        | (exfalso; simp at hb1 hb2 hb3 hb4; omega)
        | skip
      all_goals
        go_enter Try.func10, Try.ntmps10
        go_wp2_with fail
        refine (l17great l a c w H.out HX.out).mono ?_
        rintro e w1 ⟨rfl, rfl⟩
        rw [HG.out]
        go_wp2_with fail
        refine (lineNew_no base term HN.out _).mono ?_
        rintro e w1 ⟨rfl, rfl⟩
        go_wp2_with fail
        refine (l17awake _).mono ?_
        rintro e w1 ⟨rfl, hb1⟩
        have HB1 := Lib.hid hb1
        clear hb1
        go_wp2
        go_ret
        exact ⟨rfl, HB1.out⟩
    | true =>
      obtain ⟨h1, h2, h3, h4⟩ : 0 ≤ base ∧ base ≤ 1099511627776 ∧ 0 ≤ term ∧ term ≤ 1099511627776 := by
        have := (isNew_iff base term).1 hN
        omega
      have tb1 : decide (0 ≤ base) = true := by simpa using h1
      have tb2 : decide (base ≤ 1099511627776) = true := by simpa using h2
      have tb3 : decide (0 ≤ term) = true := by simpa using h3
      have tb4 : decide (term ≤ 1099511627776) = true := by simpa using h4
      have hmax := h.hmax
      have hle := h.hle
      have HIT := Lib.hid hits
      unfold maxLen at hmax
      clear hG h hx hN h1 h2 h3 h4 hits
      go_enter Try.func10, Try.ntmps10
      go_wp2_with fail
      refine (l17great l a c w H.out HX.out).mono ?_
      rintro e w1 ⟨rfl, rfl⟩
      rw [HG.out]
      go_wp2_with fail
      refine (lineNew_yes base term HN.out _).mono ?_
      rintro e w1 ⟨rfl, hl1, hbel1, hs1⟩
      have HL1 := Lib.hid hl1
      have HB1 := Lib.hid hbel1
      clear hl1 hbel1
      go_wp2_with fail
      obtain ⟨V0, hV0⟩ : ∃ V0, V0 = w1.alloc (.cells #[.int .i64 base, .int .i64 term, .slice none 0 0] 88) := ⟨_, rfl⟩
      rw [← hV0]
      have bV0 : Below w1.heap.size w1 V0 := by rw [hV0]; exact (Below.refl _ _).alloc (Nat.le_refl _) _
      have HP0 := Lib.hid (show PS w (w.heap.size + 1) V0 w.heap.size ⟨base, term, []⟩ none 0 [] ⟨base, term, []⟩ none 0 [] from
        ⟨HL1.out.below bV0, ⟨⟨⟨by simp [cellsM], by simp, by simp [maxLen], fun _ => rfl, fun hp => by simp [cellsM] at hp⟩, by simp⟩, rfl⟩, fun ad e => by simp at e, by simp, HB1.out.trans (bV0.mono (by omega)), by rw [hV0, ← hs1]; exact heap_alloc_new _ _, by omega⟩)
      have HG0 := Lib.hid (new_good HN.out)
      clear hV0 bV0
      go_loopw [7, 9] (fun pv iv wr => ∃ (i q : Nat) (X : PLine) (la : Option Addr) (lc : Nat) (ms : List MItem) (ra : Option Addr) (rc : Nat) (rs : List MItem), pv = .pointer (some ⟨q, 0, none⟩) ∧ iv = .int .i64 i ∧ i ≤ l.length ∧ X.Good ∧ PS w (w.heap.size + 1) wr q X la lc ms X ra rc rs) (fun _ iv _ => l.length - (intOf iv).toNat)
      case atStart => exact ⟨0, w.heap.size, ⟨base, term, []⟩, none, 0, [], none, 0, [], rfl, rfl, by omega, HG0.out, HP0.out⟩
      case round =>
        obtain ⟨i, q, X, la, lc, ms, ra, rc, rs, rfl, rfl, hi, hgx, hps⟩ := hrel
        have HP := Lib.hid hps
        have HGX := Lib.hid hgx
        clear hps
        by_cases hil : i < l.length
        · have t1 : decide (i < l.length) = true := by simpa using hil
          obtain ⟨x, hxi⟩ : ∃ x, l[i]? = some x := ⟨_, List.getElem?_eq_getElem hil⟩
          obtain ⟨b, o, rfl, hb, hc⟩ := H.out.hat (by have := cellsA_len l; omega)
          have hcl := cellsA_len l
          obtain ⟨e0, e1, e2, e3⟩ := cellsA_at l i x hxi
          have hxm := List.mem_of_getElem? hxi
          obtain ⟨hx10, hx60⟩ := HIT.out x hxm
          have hxis := HX.out x hxm
          have HJ := Lib.hid (show ItemsAt w w.heap.size x.a x.ms.length x.c x.ms from ⟨hxis.sl, fun m hm => (hxis.its m hm).bs (by have := (hxis.its m hm).ln; have := hx60 m hm; omega)⟩)
          have HMN := Lib.hid (fun m (hm : m ∈ x.ms) => (hxis.its m hm).ln)
          have c0 : wr.cell? ⟨b, o + i * 4, none⟩ = some (.int .i64 x.d) := (HP.out.bel.cell (p := ⟨b, o + i * 4, none⟩) hb).trans ((hc _ (by omega)).trans e0)
          have c1 : wr.cell? ⟨b, o + i * 4 + 1, none⟩ = some (.int .i64 x.i) := (HP.out.bel.cell (p := ⟨b, o + i * 4 + 1, none⟩) hb).trans (by rw [Nat.add_assoc]; exact (hc _ (by omega)).trans e1)
          have c2 : wr.cell? ⟨b, o + i * 4 + 2, none⟩ = some (.int .i64 x.n) := (HP.out.bel.cell (p := ⟨b, o + i * 4 + 2, none⟩) hb).trans (by rw [Nat.add_assoc]; exact (hc _ (by omega)).trans e2)
          have c3 : wr.cell? ⟨b, o + i * 4 + 3, none⟩ = some (.slice x.a x.ms.length x.c) := (HP.out.bel.cell (p := ⟨b, o + i * 4 + 3, none⟩) hb).trans (by rw [Nat.add_assoc]; exact (hc _ (by omega)).trans e3)
          have hi0 : (0 : Int) ≤ (i : Int) := by omega
          have hi1 : (i : Int) < (l.length : Int) := by omega
          have hin : i + 1 ≤ l.length := hil
          obtain ⟨V, hV⟩ : ∃ V, V = wr.alloc (.cells #[.int .i64 x.d, .int .i64 x.i, .int .i64 x.n, .slice x.a x.ms.length x.c] 90) := ⟨_, rfl⟩
          have HV := Lib.hid hV
          have hbV : Below wr.heap.size wr V := by rw [hV]; exact (Below.refl _ _).alloc (Nat.le_refl _) _
          have HA := Lib.hid (show V.heap[wr.heap.size]? = some (.cells #[.int .i64 x.d, .int .i64 x.i, .int .i64 x.n, .slice x.a x.ms.length x.c] 90 (0, 0)) by rw [hV]; exact heap_alloc_new _ _)
          have HPV := Lib.hid (HP.out.below hbV)
          have hgA := HP.out.glt
          have HWR := Lib.hid (show w.heap.size ≤ wr.heap.size from HP.out.bel.size)
          clear hc hcl e0 e1 e2 e3 hxi hxm hx60 hxis hV hbV hgx
          by_cases d0 : x.d = 0
          · skip
            have s0 : (x.d == 0) = true := by simpa using d0
            have hVs : V.heap.size = wr.heap.size + 1 := by rw [HV.out]; simp
            clear d0
            go_wp2_with fail
            rw [← HV.out]
            obtain ⟨wo, rfl⟩ : ∃ wo : World, wo = wr := ⟨_, rfl⟩
            go_loopw [11] (fun kv wr => ∃ (k : Nat) (X : PLine) (la : Option Addr) (lc : Nat) (ms : List MItem) (ra : Option Addr) (rc : Nat) (rs : List MItem), kv = .int .i64 k ∧ k ≤ x.ms.length ∧ X.Good ∧ PS w (w.heap.size + 1) wr q X la lc ms X ra rc rs ∧ wr.heap[wo.heap.size]? = some (.cells #[.int .i64 x.d, .int .i64 x.i, .int .i64 x.n, .slice x.a x.ms.length x.c] 90 (0, 0))) (fun kv _ => x.ms.length - (intOf kv).toNat)
            case atStart => exact ⟨0, X, la, lc, ms, ra, rc, rs, rfl, by omega, HGX.out, HPV.out, HA.out⟩
            case round =>
              clear HP HPV HA HGX
              obtain ⟨k, X, la, lc, ms, ra, rc, rs, rfl, hk, hgx, hps, ha⟩ := hrel
              have HP := Lib.hid hps
              have HA := Lib.hid ha
              have HGX := Lib.hid hgx
              have hrl := (Array.getElem?_eq_some_iff.1 ha).1
              clear hps ha
              obtain ⟨a0, a1, a2, a3⟩ := actCells HA.out
              clear a0 a1 a2
              by_cases hkl : k < x.ms.length
              · have u1 : decide (k < x.ms.length) = true := by simpa using hkl
                obtain ⟨m, hm⟩ : ∃ m, x.ms[k]? = some m := ⟨_, List.getElem?_eq_getElem hkl⟩
                obtain ⟨b2, o2, hxa, hb2, k0, k1⟩ := HJ.out.cell hm
                have hmm := List.mem_of_getElem? hm
                rw [HMN.out m hmm] at k1
                have HBM := Lib.hid (show BsAt wr w.heap.size m.a m.b.length m.c m.b from by rw [← HMN.out m hmm]; exact (HJ.out.bs m hmm).below HP.out.bel (Nat.le_refl _))
                have BSW := Lib.hid (show BsAt w w.heap.size m.a m.b.length m.c m.b from by rw [← HMN.out m hmm]; exact HJ.out.bs m hmm)
                have hwz := HP.out.bel.size
                have HK := Lib.hid (show ItemS b2 (o2 + k * 2) m wr from ⟨(HP.out.bel.cell (p := ⟨b2, o2 + k * 2, none⟩) hb2).trans k0, (HP.out.bel.cell (p := ⟨b2, o2 + (k * 2 + 1), none⟩) hb2).trans k1⟩)
                have HM := Lib.hid hm
                rw [hxa] at a3
                have hk0 : (0 : Int) ≤ (k : Int) := by omega
                have hk1 : (k : Int) < (x.ms.length : Int) := by omega
                have A3 := Lib.hid a3
                have HXA := Lib.hid hxa
                clear k0 k1 hm hmm hxa
                go_wp2_with fail
                refine wp_region_any (by kernel_rfl) ?_
                refine wpAny_of_held (S := AdS (w.heap.size + 1) wo.heap.size X ra rs.length rc (.slice (some ⟨b2, o2, none⟩) x.ms.length x.c) b2 (o2 + k * 2) m) _ _ _ _ ?_
                have hSV : AdS (w.heap.size + 1) wo.heap.size X ra rs.length rc (.slice (some ⟨b2, o2, none⟩) x.ms.length x.c) b2 (o2 + k * 2) m wr := ⟨HP.out.row, a3, HK.out.k0, HK.out.k1⟩
                have HSV := Lib.hid hSV
                have hS0 : AdS (w.heap.size + 1) wo.heap.size X ra rs.length rc (.slice (some ⟨b2, o2, none⟩) x.ms.length x.c) b2 (o2 + k * 2) m wr.drew := hSV.keep (N := wr.heap.size) (Below.refl _ _).drew (by have := HP.out.glt; omega) (by omega) (by omega)
                clear hSV a3
                refine heldTake 0 73 rfl rfl (by kernel_rfl) (by kernel_rfl) (by kernel_rfl) (fun _ _ _ h => h) hS0 (yieldsIf_load_is (by rfl) 88 (.tmp 8) rfl (w.heap.size + 1) rfl 88 #[.int .i64 X.base, .int .i64 X.term, .slice ra rs.length rc] _ (fun _ h => h.r0) Try.underlying88 rfl infoRLine) ?_
                simp only [List.set_cons_zero, List.set_cons_succ]
                refine heldTake 1 74 rfl rfl (by kernel_rfl) (by kernel_rfl) (by kernel_rfl) (fun _ _ _ h => h) hS0 (.inl ⟨by rfl, by intro w' hS; obtain ⟨s1, s2, s3, s4⟩ := hS; go_simp; (try rfl)⟩) ?_
                simp only [List.set_cons_zero, List.set_cons_succ]
                refine heldTake 2 75 rfl rfl (by kernel_rfl) (by kernel_rfl) (by kernel_rfl) (fun _ _ _ h => h) hS0 (.inl ⟨by rfl, by intro w' hS; obtain ⟨s1, s2, s3, s4⟩ := hS; go_simp; (try rfl)⟩) ?_
                simp only [List.set_cons_zero, List.set_cons_succ]
                refine heldTake 3 76 rfl rfl (by kernel_rfl) (by kernel_rfl) (by kernel_rfl) (fun _ _ _ h => h) hS0 (.inl ⟨by rfl, by intro w' hS; obtain ⟨s1, s2, s3, s4⟩ := hS; go_simp; (try rfl)⟩) ?_
                simp only [List.set_cons_zero, List.set_cons_succ]
                refine heldTake 4 77 rfl rfl (by kernel_rfl) (by kernel_rfl) (by kernel_rfl) (fun _ _ _ h => h) hS0 (.inl ⟨by rfl, by intro w' hS; obtain ⟨s1, s2, s3, s4⟩ := hS; go_simp; (try rfl)⟩) ?_
                simp only [List.set_cons_zero, List.set_cons_succ]
                refine heldTake 5 78 rfl rfl (by kernel_rfl) (by kernel_rfl) (by kernel_rfl) (fun _ _ _ h => h) hS0 (.inl ⟨by rfl, by intro w' hS; obtain ⟨s1, s2, s3, s4⟩ := hS; go_simp; (try rfl)⟩) ?_
                simp only [List.set_cons_zero, List.set_cons_succ]
                clear hS0
                obtain ⟨Y, at_, hy⟩ : ∃ Y at_, X.add (m.t, m.b) = (Y, at_) := ⟨_, _, rfl⟩
                have HY := Lib.hid hy
                have HGY := Lib.hid (show Y.Good from by have h9 := HGX.out.add (m.t, m.b); rw [hy] at h9; exact h9)
                clear hy
                have hgl := HP.out.glt
                have hdr : Below wr.heap.size wr wr.drew := (Below.refl _ _).drew
                apply way5 (fun (U : World) (bx : Nat) (ra3 : Option Addr) (rc3 : Nat) (rs3 : List MItem) => Below wr.heap.size wr U ∧ RAt U U.heap.size Y ra3 rc3 rs3 ∧ Fresh wr U ra ra3 ∧ (∀ m ∈ rs3, m.Bs wr w.heap.size) ∧ U.heap[bx]? = some (.cells #[.int .i64 0, .int .i64 0, .slice none 0 0] 88 (0, 0)) ∧ wr.heap.size ≤ bx ∧ ∀ ad, ra3 = some ad → ad.block ≠ bx)
                intro hway
                refine wpAnyH_two (i := 6) (j := 10) (by kernel_rfl) (wpOp_wp rfl (by rfl) ?_) (wpOp_wp rfl (by rfl) ?_)
                · skip
                  go_simp
                  refine (r17Add X HGX.out ra rc rs m.t m.a m.c m.b _ (HP.out.below hdr).rx ((HBM.out.below hdr hwz).mono hwz)).mono ?_
                  rintro e w3 ⟨ra3, rc3, rs3, rfl, hr3, hb3, hf3, hm3⟩
                  rw [HY.out] at hr3 ⊢
                  have hbr := hdr.trans hb3
                  have hs3 := hbr.size
                  have HB3 := Lib.hid hbr
                  have HR3 := Lib.hid hr3
                  have HF3 := Lib.hid (show Fresh wr w3 ra ra3 from hf3)
                  have HIN3 := Lib.hid (show ∀ m ∈ rs3, m.Bs wr w.heap.size from fun m9 hm9 => by
                    rcases hm3 m9 hm9 with h9 | rfl
                    · exact HP.out.inp m9 h9
                    · exact HBM.out)
                  have hS3 := HSV.out.keep hbr (by omega) (by omega) (by omega)
                  refine ⟨hS3, ?_⟩
                  clear hr3 hb3 hf3 hm3 hbr
                  refine heldTake 7 72 rfl rfl (by kernel_rfl) (by kernel_rfl) (by kernel_rfl) (fun _ _ _ h => h) hS3 (.inl ⟨by rfl, by intro w' hS; obtain ⟨s1, s2, s3, s4⟩ := hS; go_simp; (try rfl)⟩) ?_
                  simp only [List.set_cons_zero, List.set_cons_succ]
                  refine heldTake 8 80 rfl rfl (by kernel_rfl) (by kernel_rfl) (by kernel_rfl) (fun _ _ _ h => h) hS3 (.inl ⟨by rfl, by intro w' hS; obtain ⟨s1, s2, s3, s4⟩ := hS; go_simp; (try rfl)⟩) ?_
                  simp only [List.set_cons_zero, List.set_cons_succ]
                  refine heldTake 9 81 rfl rfl (by kernel_rfl) (by kernel_rfl) (by kernel_rfl) (fun _ _ _ h => h) hS3 (.inl ⟨by rfl, by intro w' hS; obtain ⟨s1, s2, s3, s4⟩ := hS; go_simp; (try rfl)⟩) ?_
                  simp only [List.set_cons_zero, List.set_cons_succ]
                  clear hS3
                  refine heldOne 10 (by kernel_rfl) rfl (by rfl) ?_
                  go_simp
                  obtain ⟨U, hU⟩ : ∃ U, U = w3.alloc (.cells #[.int .i64 0, .int .i64 0, .slice none 0 0] 88) := ⟨_, rfl⟩
                  rw [← hU]
                  have hbU : Below w3.heap.size w3 U := by rw [hU]; exact (Below.refl _ _).alloc (Nat.le_refl _) _
                  have hrU : U.heap[w3.heap.size]? = some (.cells #[.int .i64 0, .int .i64 0, .slice none 0 0] 88 (0, 0)) := by rw [hU]; exact heap_alloc_new _ _
                  have hSU := HSV.out.keep (HB3.out.trans (hbU.mono hs3)) (by omega) (by omega) (by omega)
                  have hfu := HP.out.fresh hs3 HF3.out
                  have hFU : Fresh wr U ra ra3 := by
                    rcases HF3.out with h9 | h9
                    · exact .inl h9
                    · exact .inr fun ad e => ⟨(h9 ad e).1, Nat.lt_of_lt_of_le (h9 ad e).2 hbU.size⟩
                  refine ⟨hSU, ?_⟩
                  have HFW := Lib.hid (show Below wr.heap.size wr U ∧ RAt U U.heap.size Y ra3 rc3 rs3 ∧ Fresh wr U ra ra3 ∧ (∀ m ∈ rs3, m.Bs wr w.heap.size) ∧ U.heap[w3.heap.size]? = some (.cells #[.int .i64 0, .int .i64 0, .slice none 0 0] 88 (0, 0)) ∧ wr.heap.size ≤ w3.heap.size ∧ ∀ ad, ra3 = some ad → ad.block ≠ w3.heap.size from
                    ⟨HB3.out.trans (hbU.mono hs3), (HR3.out.below hbU (Nat.le_refl _)).mono hbU.size, hFU, HIN3.out, hrU, hs3, fun ad e => by have := (hfu ad e).2.2.2; omega⟩)
                  revert HFW
                  clear hU hbU hrU hSU hfu hFU
                  generalize w3.heap.size = bx
                  intro HFW
                  exact hway U bx ra3 rc3 rs3 HFW.out
                · skip
                  go_simp
                  obtain ⟨U0, hU0⟩ : ∃ U0, U0 = (wr.alloc (.cells #[.int .i64 0, .int .i64 0, .slice none 0 0] 88)).drew := ⟨_, rfl⟩
                  rw [← hU0]
                  have hb0 : Below wr.heap.size wr U0 := by rw [hU0]; exact ((Below.refl _ _).alloc (Nat.le_refl _) _).drew
                  have hr0 : U0.heap[wr.heap.size]? = some (.cells #[.int .i64 0, .int .i64 0, .slice none 0 0] 88 (0, 0)) := by rw [hU0]; exact heap_alloc_new wr _
                  have hs0 : U0.heap.size = wr.heap.size + 1 := by rw [hU0]; simp
                  have hS0 := HSV.out.keep hb0 (by omega) (by omega) (by omega)
                  have HB0 := Lib.hid hb0
                  have HR0 := Lib.hid hr0
                  have HS0 := Lib.hid hs0
                  refine ⟨hS0, ?_⟩
                  clear hU0 hS0 hr0 hs0
                  refine heldOne 6 (by kernel_rfl) rfl (by rfl) ?_
                  go_simp
                  have hb0s := hb0.size
                  refine (r17Add X HGX.out ra rc rs m.t m.a m.c m.b _ (HP.out.below hb0).rx ((HBM.out.below hb0 hwz).mono (by omega))).mono ?_
                  rintro e U ⟨ra3, rc3, rs3, rfl, hr3, hb3, hf3, hm3⟩
                  rw [HY.out] at hr3 ⊢
                  have hbr := hb0.trans (hb3.mono hb0s)
                  have hs3 := hb3.size
                  have hS3 := HSV.out.keep hbr (by omega) (by omega) (by omega)
                  obtain ⟨bx, hbx⟩ : ∃ bx, bx = wr.heap.size := ⟨_, rfl⟩
                  have HBX := Lib.hid hbx
                  have HFW := Lib.hid (show Below wr.heap.size wr U ∧ RAt U U.heap.size Y ra3 rc3 rs3 ∧ Fresh wr U ra ra3 ∧ (∀ m ∈ rs3, m.Bs wr w.heap.size) ∧ U.heap[bx]? = some (.cells #[.int .i64 0, .int .i64 0, .slice none 0 0] 88 (0, 0)) ∧ wr.heap.size ≤ bx ∧ ∀ ad, ra3 = some ad → ad.block ≠ bx from by
                    rw [hbx]
                    exact ⟨hbr, hr3, by
                      rcases hf3 with h9 | h9
                      · exact .inl h9
                      · exact .inr fun ad e => ⟨by have := (h9 ad e).1; omega, (h9 ad e).2⟩, fun m9 hm9 => by
                      rcases hm3 m9 hm9 with h9 | rfl
                      · exact HP.out.inp m9 h9
                      · exact HBM.out, (hb3.block _ (by have := HS0.out; omega)).trans HR0.out, Nat.le_refl _, fun ad e => by
                      rcases hf3 with h9 | h9
                      · have := (HP.out.ap ad (h9 ▸ e)).2.2.2; omega
                      · have h8 := (h9 ad e).1; have := HS0.out; omega⟩)
                  refine ⟨hS3, ?_⟩
                  clear hr3 hb3 hf3 hm3 hbr hs3 hb0 hb0s hbx
                  refine heldTake 7 72 rfl rfl (by kernel_rfl) (by kernel_rfl) (by kernel_rfl) (fun _ _ _ h => h) hS3 (.inl ⟨by rfl, by intro w' hS; obtain ⟨s1, s2, s3, s4⟩ := hS; go_simp; (try rfl)⟩) ?_
                  simp only [List.set_cons_zero, List.set_cons_succ]
                  refine heldTake 8 80 rfl rfl (by kernel_rfl) (by kernel_rfl) (by kernel_rfl) (fun _ _ _ h => h) hS3 (.inl ⟨by rfl, by intro w' hS; obtain ⟨s1, s2, s3, s4⟩ := hS; go_simp; (try rfl)⟩) ?_
                  simp only [List.set_cons_zero, List.set_cons_succ]
                  refine heldTake 9 81 rfl rfl (by kernel_rfl) (by kernel_rfl) (by kernel_rfl) (fun _ _ _ h => h) hS3 (.inl ⟨by rfl, by intro w' hS; obtain ⟨s1, s2, s3, s4⟩ := hS; go_simp; (try rfl)⟩) ?_
                  simp only [List.set_cons_zero, List.set_cons_succ]
                  clear hS3 HB0 HR0 HS0
                  rw [← HBX.out]
                  exact hway U bx ra3 rc3 rs3 HFW.out
                intro U bx ra3 rc3 rs3 hF
                obtain ⟨hbU, hrU3, hfU, hinU, hrU, hbx, hapU⟩ := hF
                have HIN3 := Lib.hid hinU
                have hSU := HSV.out.keep hbU (by omega) (by omega) (by omega)
                have hsU := hbU.size
                refine heldOne 11 (by kernel_rfl) rfl (by rfl) ?_
                refine wp_store_row 88 (.tmp 12) (.tmp 80) rfl bx #[.int .i64 Y.base, .int .i64 Y.term, .slice ra3 rs3.length rc3] rfl rfl 88 _ hrU infoRLine rfl (by simp [Value.oneCell']) ?_
                obtain ⟨w4, hw4⟩ : ∃ w4, w4 = U.setRow bx #[.int .i64 Y.base, .int .i64 Y.term, .slice ra3 rs3.length rc3] := ⟨_, rfl⟩
                rw [← hw4]
                have hb4 : Below bx U w4 := by rw [hw4]; exact below_setRow U _ (Nat.le_refl _)
                have hs4 : w4.heap.size = U.heap.size := by rw [hw4]; simp
                have ho4 : ∀ k, k ≠ bx → w4.heap[k]? = U.heap[k]? := by rw [hw4]; exact fun k hk => setRow_other _ _ _ _ hk
                have ROW4 := Lib.hid (show w4.heap[bx]? = some (.cells #[.int .i64 Y.base, .int .i64 Y.term, .slice ra3 rs3.length rc3] 88 (0, 0)) from by rw [hw4]; exact setRow_heap U _ _ _ _ _ hrU)
                have hb34 : Below wr.heap.size wr w4 := hbU.trans (hb4.mono hbx)
                have HP4 := Lib.hid (HP.out.below hb34)
                have HA4 := Lib.hid ((hb34.block _ hrl).trans HA.out)
                have HIN4 := Lib.hid (show ∀ m ∈ rs3, m.Bs w4 w.heap.size from fun m hm => (HIN3.out m hm).below hb34 hwz)
                have HR4 := Lib.hid (hrU3.setBox hapU (fun m hm => ((HIN3.out m hm).below hbU hwz)) (show w.heap.size ≤ bx by omega) ho4 hb4 hs4)
                have HF4 := Lib.hid (HP.out.fresh hb34.size (show Fresh wr w4 ra ra3 from by
                  rcases hfU with h9 | h9
                  · exact .inl h9
                  · exact .inr fun ad e => ⟨(h9 ad e).1, by have := (h9 ad e).2; omega⟩))
                have hS4 := HSV.out.keep hb34 (by omega) (by omega) (by omega)
                refine ⟨hS4, ?_⟩
                have HB4 := Lib.hid hb34
                clear hb4 hb34 hw4 hbU hrU hsU hSU hrU3 hfU hinU hapU hs4 ho4 hdr
                refine heldTake 12 13 rfl rfl (by kernel_rfl) (by kernel_rfl) (by kernel_rfl) (fun _ _ _ h => h) hS4 (.inl ⟨by rfl, by intro w' hS; obtain ⟨s1, s2, s3, s4⟩ := hS; go_simp; (try rfl)⟩) ?_
                simp only [List.set_cons_zero, List.set_cons_succ]
                refine wpAnyH_done (by kernel_rfl) ?_ _
                clear hS4
                obtain ⟨r0, r1, r2⟩ := lineCells ROW4.out
                go_wp2_with (refine wpList_store_abs rfl 88 (.tmp 8) (.tmp 82) rfl (w.heap.size + 1) #[.int .i64 Y.base, .int .i64 Y.term, .slice ra3 rs3.length rc3] rfl rfl 88 _ HP4.out.row infoRLine rfl (by simp [Value.oneCell']) ?_; intro W5 hrow5 hoth5 hb5 hs5; have HP5 := Lib.hid (HP4.out.setRef HR4.out HF4.out HIN4.out hrow5 hoth5 hb5 hs5); have HA5 := Lib.hid ((hoth5 _ (by omega)).trans HA4.out); obtain ⟨a0, a1, a2, a3⟩ := actCells HA5.out; rw [HXA.out] at a3; obtain ⟨k0, k1⟩ := HK.out.keep ((HB4.out.mono hwz).trans (hb5.mono (show w.heap.size ≤ w.heap.size + 1 by omega))) hb2; clear hrow5 hoth5 hb5 hs5)
                have hw5 := HP5.out.bel
                refine (lineAdd w.heap.size q X HGX.out la lc ms m.t m.a m.c m.b _ HP5.out.ln (((BSW.out).below hw5 (Nat.le_refl _)).mono hw5.size) hw5.size).mono ?_
                rintro e w6 ⟨rfl, hl6⟩
                rw [HY.out] at hl6 ⊢
                obtain ⟨la6, lc6, ms6, hp6, hk6⟩ := HP5.out.turn hl6
                have HPN := Lib.hid hp6
                have HAN := Lib.hid (hk6.2 _ _ _ HA5.out (by decide) (by decide))
                clear hl6 hp6 hk6 a0 a1 a2 a3 k0 k1 hw5 r0 r1 r2
                go_wp2
                go_roundw
                case rel => exact ⟨k + 1, Y, la6, lc6, ms6, ra3, rc3, rs3, by go_num, hkl, HGY.out, HPN.out, HAN.out⟩
                case measure => simp [intOf]; omega
              · have u1 : decide (k < x.ms.length) = false := by simpa using hkl
                obtain ⟨g0, g1, g2⟩ := lineCells HP.out.row
                obtain ⟨a0, a1, a2, a3⟩ := actCells HA.out
                have HGZ := Lib.hid HGX.out
                have HPZ := Lib.hid HP.out
                go_wp2_with fail
                refine (l17is w.heap.size q X HGZ.out la lc ms ra rc rs x.i _ HPZ.out.ln HPZ.out.rx).mono ?_
                rintro e w9 ⟨rfl, hb9⟩
                have HPN := Lib.hid (HPZ.out.below hb9)
                clear hb9
                go_wp2
                go_roundw
                case rel => exact ⟨i + 1, q, X, la, lc, ms, ra, rc, rs, rfl, by go_num, hin, HGZ.out, HPN.out⟩
                case measure => simp [intOf]; omega
          · have s0 : (x.d == 0) = false := by simpa using d0
            by_cases d1 : x.d = 1
            · have s1 : (x.d == 1) = true := by simpa using d1
              clear d0 d1
              obtain ⟨Y, at_, ok, hy⟩ : ∃ Y at_ ok, X.join x.i x.n (x.ms.map MItem.it) = (Y, at_, ok) := ⟨_, _, _, rfl⟩
              have HY := Lib.hid hy
              have HGY := Lib.hid (show Y.Good from by have h9 := HGX.out.join x.i x.n (x.ms.map MItem.it); rw [hy] at h9; exact h9)
              have HJV := Lib.hid (HJ.out.below HPV.out.bel (Nat.le_refl _))
              clear hy
              obtain ⟨g0, g1, g2⟩ := lineCells HP.out.row
              go_wp2_with fail
              rw [← HV.out]
              refine (r17Join X HGX.out ra rc rs x.i x.n x.ms x.a x.c _ HPV.out.rx (HJV.out.mono HPV.out.bel.size) (by omega)).mono ?_
              rintro e w3 ⟨ra3, rc3, rs3, rfl, hr3, hb3, hf3, hm3⟩
              rw [HY.out] at hr3 ⊢
              have HIN3 := Lib.hid (show ∀ m ∈ rs3, m.Bs V w.heap.size from fun m hm => by
                rcases hm3 m hm with h9 | h9
                · exact HPV.out.inp m h9
                · exact HJV.out.bs m h9)
              clear g0 g1 g2 hm3
              have hVs : V.heap.size = wr.heap.size + 1 := by rw [HV.out]; simp
              obtain ⟨w4, hw4⟩ : ∃ w4, w4 = w3.alloc (.cells #[.int .i64 Y.base, .int .i64 Y.term, .slice ra3 rs3.length rc3] 88) := ⟨_, rfl⟩
              have hb4 : Below w3.heap.size w3 w4 := by rw [hw4]; exact (Below.refl _ _).alloc (Nat.le_refl _) _
              have hs3 := hb3.size
              have hb34 := hb3.trans (hb4.mono hs3)
              have HW4 := Lib.hid hw4
              have HP4 := Lib.hid (HPV.out.below hb34)
              have HA4 := Lib.hid ((hb34.block _ (Array.getElem?_eq_some_iff.1 HA.out).1).trans HA.out)
              have HR4 := Lib.hid ((hr3.below hb4 (Nat.le_refl _)).mono hb4.size)
              have HF4 := Lib.hid (HPV.out.fresh hb34.size (show Fresh V w4 ra ra3 from by
                rcases hf3 with h9 | h9
                · exact .inl h9
                · exact .inr fun ad e => ⟨(h9 ad e).1, Nat.lt_of_lt_of_le (h9 ad e).2 hb4.size⟩))
              have HIN4 := Lib.hid (show ∀ m ∈ rs3, m.Bs w4 w.heap.size from fun m hm => (HIN3.out m hm).below hb34 (by have := HWR.out; omega))
              clear hb3 hf3 hr3 hb4 hb34 hw4 hs3
              have ROW4 := Lib.hid (show (w3.alloc (.cells #[.int .i64 Y.base, .int .i64 Y.term, .slice ra3 rs3.length rc3] 88)).heap[w.heap.size + 1]? = some (.cells #[.int .i64 X.base, .int .i64 X.term, .slice ra rs.length rc] 88 (0, 0)) from by rw [← HW4.out]; exact HP4.out.row)
              go_wp2_with (refine wpList_store_abs rfl 88 (.tmp 8) (.tmp 106) rfl (w.heap.size + 1) #[.int .i64 Y.base, .int .i64 Y.term, .slice ra3 rs3.length rc3] rfl rfl 88 _ ROW4.out infoRLine rfl (by simp [Value.oneCell']) ?_; intro W5 hrow5 hoth5 hb5 hs5; rw [← HW4.out] at hoth5 hb5 hs5; have HP5 := Lib.hid (HP4.out.setRef HR4.out HF4.out HIN4.out hrow5 hoth5 hb5 hs5); have HA5 := Lib.hid ((hoth5 _ (by omega)).trans HA4.out); obtain ⟨a0, a1, a2, a3⟩ := actCells HA5.out; clear hrow5 hoth5 hb5 hs5)
              refine (lineJoin w.heap.size q X HGX.out la lc ms x.i x.n x.ms x.a x.c _ HP5.out.ln ((HJ.out.below HP5.out.bel (Nat.le_refl _)).mono HP5.out.bel.size) (by omega) (fun hp ad e => by
                obtain ⟨b9, o9, e9, hb9, -⟩ := HJ.out.sl.hat (by rw [cellsM_len]; omega)
                rw [e] at e9
                injection e9 with e9
                subst e9
                have := HP5.out.ln.pb
                show b9 ≠ q
                omega) HP5.out.bel.size).mono ?_
              rintro e w6 ⟨rfl, hl6⟩
              rw [HY.out] at hl6 ⊢
              obtain ⟨la6, lc6, ms6, hp6, hk6⟩ := HP5.out.turn hl6
              have HPZ := Lib.hid hp6
              have HAZ := Lib.hid (hk6.2 _ _ _ HA5.out (by decide) (by decide))
              have HGZ := Lib.hid HGY.out
              clear hl6 hp6 hk6 a0 a1 a2 a3
              obtain ⟨a0, a1, a2, a3⟩ := actCells HAZ.out
              obtain ⟨g0, g1, g2⟩ := lineCells HPZ.out.row
              go_wp2_with fail
              refine (l17is w.heap.size q Y HGZ.out la6 lc6 ms6 ra3 rc3 rs3 x.i _ HPZ.out.ln HPZ.out.rx).mono ?_
              rintro e w9 ⟨rfl, hb9⟩
              have HPN := Lib.hid (HPZ.out.below hb9)
              clear hb9
              go_wp2
              go_roundw
              case rel => exact ⟨i + 1, q, Y, la6, lc6, ms6, ra3, rc3, rs3, rfl, by go_num, hin, HGZ.out, HPN.out⟩
              case measure => simp [intOf]; omega
            · have s1 : (x.d == 1) = false := by simpa using d1
              by_cases d2 : x.d = 2
              · have s2 : (x.d == 2) = true := by simpa using d2
                clear d0 d1 d2
                obtain ⟨Y, ok, hy⟩ : ∃ Y ok, X.drop x.i = (Y, ok) := ⟨_, _, rfl⟩
                have HY := Lib.hid hy
                have HGY := Lib.hid (show Y.Good from by have h9 := HGX.out.drop x.i; rw [hy] at h9; exact h9)
                clear hy
                obtain ⟨g0, g1, g2⟩ := lineCells HP.out.row
                go_wp2_with fail
                rw [← HV.out]
                refine (r17Drop X HGX.out ra rc rs x.i _ HPV.out.rx).mono ?_
                rintro e w3 ⟨ra3, rc3, rs3, rfl, hr3, hb3, hf3, hm3⟩
                rw [HY.out] at hr3 ⊢
                have HIN3 := Lib.hid (show ∀ m ∈ rs3, m.Bs V w.heap.size from fun m hm => HPV.out.inp m (hm3 m hm))
                clear g0 g1 g2 hm3
                have hVs : V.heap.size = wr.heap.size + 1 := by rw [HV.out]; simp
                obtain ⟨w4, hw4⟩ : ∃ w4, w4 = w3.alloc (.cells #[.int .i64 Y.base, .int .i64 Y.term, .slice ra3 rs3.length rc3] 88) := ⟨_, rfl⟩
                have hb4 : Below w3.heap.size w3 w4 := by rw [hw4]; exact (Below.refl _ _).alloc (Nat.le_refl _) _
                have hs3 := hb3.size
                have hb34 := hb3.trans (hb4.mono hs3)
                have HW4 := Lib.hid hw4
                have HP4 := Lib.hid (HPV.out.below hb34)
                have HA4 := Lib.hid ((hb34.block _ (Array.getElem?_eq_some_iff.1 HA.out).1).trans HA.out)
                have HR4 := Lib.hid ((hr3.below hb4 (Nat.le_refl _)).mono hb4.size)
                have HF4 := Lib.hid (HPV.out.fresh hb34.size (show Fresh V w4 ra ra3 from by
                  rcases hf3 with h9 | h9
                  · exact .inl h9
                  · exact .inr fun ad e => ⟨(h9 ad e).1, Nat.lt_of_lt_of_le (h9 ad e).2 hb4.size⟩))
                have HIN4 := Lib.hid (show ∀ m ∈ rs3, m.Bs w4 w.heap.size from fun m hm => (HIN3.out m hm).below hb34 (by have := HWR.out; omega))
                clear hb3 hf3 hr3 hb4 hb34 hw4 hs3
                have ROW4 := Lib.hid (show (w3.alloc (.cells #[.int .i64 Y.base, .int .i64 Y.term, .slice ra3 rs3.length rc3] 88)).heap[w.heap.size + 1]? = some (.cells #[.int .i64 X.base, .int .i64 X.term, .slice ra rs.length rc] 88 (0, 0)) from by rw [← HW4.out]; exact HP4.out.row)
                go_wp2_with (refine wpList_store_abs rfl 88 (.tmp 8) (.tmp 135) rfl (w.heap.size + 1) #[.int .i64 Y.base, .int .i64 Y.term, .slice ra3 rs3.length rc3] rfl rfl 88 _ ROW4.out infoRLine rfl (by simp [Value.oneCell']) ?_; intro W5 hrow5 hoth5 hb5 hs5; rw [← HW4.out] at hoth5 hb5 hs5; have HP5 := Lib.hid (HP4.out.setRef HR4.out HF4.out HIN4.out hrow5 hoth5 hb5 hs5); have HA5 := Lib.hid ((hoth5 _ (by omega)).trans HA4.out); obtain ⟨a0, a1, a2, a3⟩ := actCells HA5.out; clear hrow5 hoth5 hb5 hs5)
                refine (lineDrop w.heap.size q X HGX.out la lc ms x.i _ HP5.out.ln HP5.out.bel.size).mono ?_
                rintro e w6 ⟨rfl, hl6⟩
                rw [HY.out] at hl6 ⊢
                obtain ⟨la6, lc6, ms6, hp6, hk6⟩ := HP5.out.turn hl6
                have HPZ := Lib.hid hp6
                have HAZ := Lib.hid (hk6.2 _ _ _ HA5.out (by decide) (by decide))
                have HGZ := Lib.hid HGY.out
                clear hl6 hp6 hk6 a0 a1 a2 a3
                obtain ⟨a0, a1, a2, a3⟩ := actCells HAZ.out
                obtain ⟨g0, g1, g2⟩ := lineCells HPZ.out.row
                go_wp2_with fail
                refine (l17is w.heap.size q Y HGZ.out la6 lc6 ms6 ra3 rc3 rs3 x.i _ HPZ.out.ln HPZ.out.rx).mono ?_
                rintro e w9 ⟨rfl, hb9⟩
                have HPN := Lib.hid (HPZ.out.below hb9)
                clear hb9
                go_wp2
                go_roundw
                case rel => exact ⟨i + 1, q, Y, la6, lc6, ms6, ra3, rc3, rs3, rfl, by go_num, hin, HGZ.out, HPN.out⟩
                case measure => simp [intOf]; omega
              · have s2 : (x.d == 2) = false := by simpa using d2
                by_cases d3 : x.d = 3
                · have s3 : (x.d == 3) = true := by simpa using d3
                  clear d0 d1 d2 d3
                  have hVs : V.heap.size = wr.heap.size + 1 := by rw [HV.out]; simp
                  go_wp2_with fail
                  rw [← HV.out]
                  refine wp_region_any (by kernel_rfl) ?_
                  refine wpAny_of_held (S := FrS (w.heap.size + 1) wr.heap.size X ra rs.length rc x.i x.n) _ _ _ _ ?_
                  have hSV : FrS (w.heap.size + 1) wr.heap.size X ra rs.length rc x.i x.n V := ⟨HPV.out.row, (actCells HA.out).2.1, (actCells HA.out).2.2.1⟩
                  have HSV := Lib.hid hSV
                  have hS0 : FrS (w.heap.size + 1) wr.heap.size X ra rs.length rc x.i x.n V.drew := hSV.keep (N := V.heap.size) (Below.refl _ _).drew (by omega) (by omega)
                  clear hSV
                  refine heldTake 0 144 rfl rfl (by kernel_rfl) (by kernel_rfl) (by kernel_rfl) (fun _ _ _ h => h) hS0 (.inl ⟨by rfl, by intro w' hS; obtain ⟨s1, s2, s3⟩ := hS; go_simp; (try rfl)⟩) ?_
                  simp only [List.set_cons_zero, List.set_cons_succ]
                  refine heldTake 1 145 rfl rfl (by kernel_rfl) (by kernel_rfl) (by kernel_rfl) (fun _ _ _ h => h) hS0 (.inl ⟨by rfl, by intro w' hS; obtain ⟨s1, s2, s3⟩ := hS; go_simp; (try rfl)⟩) ?_
                  simp only [List.set_cons_zero, List.set_cons_succ]
                  refine heldTake 2 146 rfl rfl (by kernel_rfl) (by kernel_rfl) (by kernel_rfl) (fun _ _ _ h => h) hS0 (.inl ⟨by rfl, by intro w' hS; obtain ⟨s1, s2, s3⟩ := hS; go_simp; (try rfl)⟩) ?_
                  simp only [List.set_cons_zero, List.set_cons_succ]
                  refine heldTake 3 147 rfl rfl (by kernel_rfl) (by kernel_rfl) (by kernel_rfl) (fun _ _ _ h => h) hS0 (.inl ⟨by rfl, by intro w' hS; obtain ⟨s1, s2, s3⟩ := hS; go_simp; (try rfl)⟩) ?_
                  simp only [List.set_cons_zero, List.set_cons_succ]
                  refine heldTake 4 148 rfl rfl (by kernel_rfl) (by kernel_rfl) (by kernel_rfl) (fun _ _ _ h => h) hS0 (.inl ⟨by rfl, by intro w' hS; obtain ⟨s1, s2, s3⟩ := hS; go_simp; (try rfl)⟩) ?_
                  simp only [List.set_cons_zero, List.set_cons_succ]
                  refine heldTake 6 150 rfl rfl (by kernel_rfl) (by kernel_rfl) (by kernel_rfl) (fun _ _ _ h => h) hS0 (yieldsIf_load_is (by rfl) 88 (.tmp 8) rfl (w.heap.size + 1) rfl 88 #[.int .i64 X.base, .int .i64 X.term, .slice ra rs.length rc] _ (fun _ h => h.r0) Try.underlying88 rfl infoRLine) ?_
                  simp only [List.set_cons_zero, List.set_cons_succ]
                  refine heldTake 7 151 rfl rfl (by kernel_rfl) (by kernel_rfl) (by kernel_rfl) (fun _ _ _ h => h) hS0 (.inl ⟨by rfl, by intro w' hS; obtain ⟨s1, s2, s3⟩ := hS; go_simp; (try rfl)⟩) ?_
                  simp only [List.set_cons_zero, List.set_cons_succ]
                  refine heldTake 8 152 rfl rfl (by kernel_rfl) (by kernel_rfl) (by kernel_rfl) (fun _ _ _ h => h) hS0 (.inl ⟨by rfl, by intro w' hS; obtain ⟨s1, s2, s3⟩ := hS; go_simp; (try rfl)⟩) ?_
                  simp only [List.set_cons_zero, List.set_cons_succ]
                  refine heldTake 9 153 rfl rfl (by kernel_rfl) (by kernel_rfl) (by kernel_rfl) (fun _ _ _ h => h) hS0 (.inl ⟨by rfl, by intro w' hS; obtain ⟨s1, s2, s3⟩ := hS; go_simp; (try rfl)⟩) ?_
                  simp only [List.set_cons_zero, List.set_cons_succ]
                  refine heldTake 10 154 rfl rfl (by kernel_rfl) (by kernel_rfl) (by kernel_rfl) (fun _ _ _ h => h) hS0 (.inl ⟨by rfl, by intro w' hS; obtain ⟨s1, s2, s3⟩ := hS; go_simp; (try rfl)⟩) ?_
                  simp only [List.set_cons_zero, List.set_cons_succ]
                  clear hS0
                  refine heldOne 5 (by kernel_rfl) rfl (by rfl) ?_
                  go_simp
                  have hdr : Below V.heap.size V V.drew := (Below.refl _ _).drew
                  refine (lineFromA w.heap.size q X HGX.out la lc ms x.i x.n _ (HPV.out.below hdr).ln).mono ?_
                  rintro e w3 ⟨a3, c3, ms3, rfl, hown3, hit3, hb3⟩
                  have hb3' := hdr.trans hb3
                  have HP3 := Lib.hid (HPV.out.below hb3')
                  have HI3 := Lib.hid hown3.at
                  have HT3 := Lib.hid hit3
                  have HB3 := Lib.hid hb3'
                  have hs3 := hb3'.size
                  have hS3 := HSV.out.keep hb3' (by omega) (by omega)
                  refine ⟨hS3, ?_⟩
                  clear hown3 hit3 hb3 hb3' hdr hS3
                  refine heldOne 11 (by kernel_rfl) rfl (by rfl) ?_
                  go_simp
                  refine (r17From X HGX.out ra rc rs x.i x.n _ HP3.out.rx).mono ?_
                  rintro e w4 ⟨a4, c4, ms4, rfl, -, hi4, hm4, hb4⟩
                  have HP4 := Lib.hid (HP3.out.below hb4)
                  have HI4 := Lib.hid hi4
                  have HT4 := Lib.hid hm4
                  have HI34 := Lib.hid ((HI3.out.below hb4 (Nat.le_refl _)).mono hb4.size)
                  have HB4 := Lib.hid (HB3.out.trans (hb4.mono hs3))
                  have hs4 := hb4.size
                  have hS4 := HSV.out.keep HB4.out (by omega) (by omega)
                  refine ⟨hS4, ?_⟩
                  clear hi4 hm4 hb4 hS4
                  refine heldOne 12 (by kernel_rfl) rfl (by rfl) ?_
                  go_simp
                  have hn3 : ms3.length ≤ 1000000 := by
                    have h8 := congrArg List.length HT3.out
                    simp only [List.length_map] at h8
                    have h9 := X.from_len x.i x.n
                    have := HGX.out.n1
                    omega
                  refine (r17Same ms3 ms4 a3 a4 ms3.length c3 ms4.length c4 hn3 _ HI34.out HI4.out).mono ?_
                  rintro e w6 ⟨rfl, hb6⟩
                  rw [show decide (ms3.map MItem.it = ms4.map MItem.it) = true from by rw [HT3.out, HT4.out]; simp]
                  have HPZ := Lib.hid (HP4.out.below hb6)
                  have HB6 := Lib.hid (HB4.out.trans (hb6.mono (by omega)))
                  have hS6 := HSV.out.keep HB6.out (by omega) (by omega)
                  have HAZ := Lib.hid ((HB6.out.block _ (Array.getElem?_eq_some_iff.1 HA.out).1).trans HA.out)
                  have HGZ := Lib.hid HGX.out
                  refine ⟨hS6, ?_⟩
                  clear hb6
                  refine heldTake 13 157 rfl rfl (by kernel_rfl) (by kernel_rfl) (by kernel_rfl) (fun _ _ _ h => h) hS6 (.inl ⟨by rfl, by intro w' hS; obtain ⟨s1, s2, s3⟩ := hS; go_simp; (try rfl)⟩) ?_
                  simp only [List.set_cons_zero, List.set_cons_succ]
                  refine wpAnyH_done (by kernel_rfl) ?_ _
                  clear hS6 c0 c1 c2
                  obtain ⟨a0, a1, a2, a3⟩ := actCells HAZ.out
                  obtain ⟨g0, g1, g2⟩ := lineCells HPZ.out.row
                  go_wp2_with fail
                  refine (l17is w.heap.size q X HGZ.out la lc ms ra rc rs x.i _ HPZ.out.ln HPZ.out.rx).mono ?_
                  rintro e w9 ⟨rfl, hb9⟩
                  have HPN := Lib.hid (HPZ.out.below hb9)
                  clear hb9
                  go_wp2
                  go_roundw
                  case rel => exact ⟨i + 1, q, X, la, lc, ms, ra, rc, rs, rfl, by go_num, hin, HGZ.out, HPN.out⟩
                  case measure => simp [intOf]; omega
                · have s3 : (x.d == 3) = false := by simpa using d3
                  by_cases d4 : x.d = 4
                  · have s4 : (x.d == 4) = true := by simpa using d4
                    clear d0 d1 d2 d3 d4
                    obtain ⟨g0, g1, g2⟩ := lineCells HP.out.row
                    go_wp2_with fail
                    rw [← HV.out]
                    refine (lineCopy w.heap.size q X HGX.out la lc ms _ HPV.out.ln).mono ?_
                    rintro e w3 ⟨q3, la3, lc3, rfl, hn3, hb3, hq3⟩
                    have HO3 := Lib.hid (HPV.out.copied hn3 hb3 hq3)
                    have HA3 := Lib.hid ((hb3.block _ (Array.getElem?_eq_some_iff.1 HA.out).1).trans HA.out)
                    clear g0 g1 g2 hn3 hb3 hq3
                    go_wp2_with fail
                    refine (lineAdd w.heap.size q X HGX.out la lc ms 77 none 0 [] _ HO3.out.old (bsNil _ _) HO3.out.ps.bel.size).mono ?_
                    rintro e w4 ⟨rfl, hl4⟩
                    obtain ⟨lao, lco, mso, ho4, hk4⟩ := HO3.out.turn hl4
                    have HO4 := Lib.hid ho4
                    have HA4 := Lib.hid (hk4.2 _ _ _ HA3.out (by decide) (by decide))
                    have HGO := Lib.hid (HGX.out.add (77, []))
                    obtain ⟨g0, g1, g2⟩ := lineCells HO4.out.ps.row
                    have hb1 := HGX.out.b1
                    have hb0 := HGX.out.b0
                    have hrn : (rs.length : Int) ≤ 4096 := by have := HGX.out.n1; have := HO4.out.ps.rx.len; omega
                    clear hl4 ho4 hk4
                    go_wp2_with fail
                    refine (lineDrop w.heap.size q _ HGO.out lao lco mso _ _ HO4.out.old HO4.out.ps.bel.size).mono ?_
                    rintro e w6 ⟨rfl, hl6⟩
                    obtain ⟨lap, lcp, msp, ho6, hk6⟩ := HO4.out.turn hl6
                    have HPZ := Lib.hid ho6.ps
                    have HAZ := Lib.hid (hk6.2 _ _ _ HA4.out (by decide) (by decide))
                    have HGZ := Lib.hid HGX.out
                    clear hl6 ho6 hk6 g0 g1 g2 hb0 hb1 hrn
                    obtain ⟨a0, a1, a2, a3⟩ := actCells HAZ.out
                    obtain ⟨g0, g1, g2⟩ := lineCells HPZ.out.row
                    go_wp2_with fail
                    refine (l17is w.heap.size q3 X HGZ.out la3 lc3 ms ra rc rs x.i _ HPZ.out.ln HPZ.out.rx).mono ?_
                    rintro e w9 ⟨rfl, hb9⟩
                    have HPN := Lib.hid (HPZ.out.below hb9)
                    clear hb9
                    go_wp2
                    go_roundw
                    case rel => exact ⟨i + 1, q3, X, la3, lc3, ms, ra, rc, rs, rfl, by go_num, hin, HGZ.out, HPN.out⟩
                    case measure => simp [intOf]; omega
                  · have s4 : (x.d == 4) = false := by simpa using d4
                    clear d0 d1 d2 d3 d4
                    obtain ⟨g0, g1, g2⟩ := lineCells HP.out.row
                    have HGZ := Lib.hid HGX.out
                    have HPZ := Lib.hid HPV.out
                    go_wp2_with fail
                    rw [← HV.out]
                    refine (l17is w.heap.size q X HGZ.out la lc ms ra rc rs x.i _ HPZ.out.ln HPZ.out.rx).mono ?_
                    rintro e w9 ⟨rfl, hb9⟩
                    have HPN := Lib.hid (HPZ.out.below hb9)
                    clear hb9
                    go_wp2
                    go_roundw
                    case rel => exact ⟨i + 1, q, X, la, lc, ms, ra, rc, rs, rfl, by go_num, hin, HGZ.out, HPN.out⟩
                    case measure => simp [intOf]; omega
        · have t1 : decide (i < l.length) = false := by simpa using hil
          go_wp2_with fail
          refine (l17awake _).mono ?_
          rintro e w3 ⟨rfl, hb3⟩
          have HB3 := Lib.hid (HP.out.bel.trans (hb3.mono HP.out.bel.size))
          clear hb3
          go_wp2
          go_ret
          exact ⟨rfl, HB3.out⟩
end Go.Proofs.Ytogcnfhmcpkdcaa
