/-
  Walks of a group: who leads (leads).
-/
import Derived.Test.YtogcnfhmcpkdcaaGreatGrW2
import Derived.Test.YtogcnfhmcpkdcaaGreatLine9
import Derived.Test.YtogcnfhmcpkdcaaGreatLineM8
namespace Go.Proofs.YtogcnfhmcpkdcaaGreat
open Go.RowKit
set_option linter.unusedVariables false
set_option linter.unusedSimpArgs false

/-- the group, and the box of a ballot -/
structure LdW (w0 w : World) (B g c : Nat) (G : PGroup) (M : GMem) (bb : Nat) (t : Int) (i : Nat) : Prop where
  gr : GrAt w B g c G M
  bl : Below B w0 w
  bx : w.heap[bb]? = some (.cells #[.int .i64 t, .int .i64 i] 80 (0, 0))
  bf : B ≤ bb ∧ ∀ x, ¬ M.own g x bb
section
variable {w0 w w' w1 : World} {B g c : Nat} {G : PGroup} {M : GMem} {bb i : Nat} {t : Int}
theorem LdW.below (h : LdW w0 w B g c G M bb t i) (hb : Below w.heap.size w w') : LdW w0 w' B g c G M bb t i :=
  ⟨h.gr.below hb, h.bl.trans (hb.mono h.gr.bs), (hb.block bb (Array.getElem?_eq_some_iff.1 h.bx).1).trans h.bx, h.bf⟩
theorem below_set {w : World} {B g j : Nat} (hB : B ≤ g) (v : Value) : Below B w (w.setCell ⟨g, j, none⟩ v) :=
  ⟨rfl, rfl, rfl, by simp, fun k hk => Below.heap_setCell _ _ _ k (by show k ≠ g; omega)⟩
theorem LdW.right (h : LdW w0 w B g c G M bb t i) (hr : G.right = true) : LdW w0 (w.setCell ⟨g, 8, none⟩ (.bool true)) B g c G M bb t i := by
  have h1 := h.gr.setRight true
  have e : ({ G with right := true } : PGroup) = G := by rw [← hr]
  rw [e] at h1
  exact ⟨h1, h.bl.trans (below_set (h.gr.inn .g g rfl) _), (Below.heap_setCell _ _ _ bb (fun e => h.bf.2 .g (show bb = g from e))).trans h.bx, h.bf⟩
theorem LdW.c0 (h : LdW w0 w B g c G M bb t i) : w.cell? ⟨bb, 0, none⟩ = some (.int .i64 t) := by rw [cell_of_row _ _ 0 _ _ _ h.bx]; rfl
theorem LdW.c1 (h : LdW w0 w B g c G M bb t i) : w.cell? ⟨bb, 1, none⟩ = some (.int .i64 i) := by rw [cell_of_row _ _ 1 _ _ _ h.bx]; rfl
/-- who led: one that is of another term, or new -/
def PGroup.led1 (G : PGroup) (t i : Int) : PGroup := if ∀ x ∈ G.led, x.1 ≠ t then { G with led := G.led ++ [(t, i)] } else G
theorem ledGet (l : List (Int × Int)) {k : Nat} {x : Int × Int} (hk : l[k]? = some x) : (l.flatMap ledCells)[k * 2]? = some (.int .i64 x.1) ∧ (l.flatMap ledCells)[k * 2 + 1]? = some (.int .i64 x.2) := by
  induction l generalizing k with
  | nil => simp at hk
  | cons y l ih =>
    cases k with
    | zero => simp at hk; subst hk; exact ⟨rfl, rfl⟩
    | succ k =>
      have h1 := ih (k := k) (by simpa using hk)
      have e1 : (k + 1) * 2 = k * 2 + 1 + 1 := by omega
      rw [e1]
      simpa [ledCells] using h1
theorem LineAt.set {q : Nat} {x : PLine} {la : Option Addr} {lc : Nat} {ms : List MItem} (h : LnAt w 0 q x la lc ms) {j : Nat} {v : Value} {cs : Array Value} (hg : w.heap[g]? = some (.cells cs 67 (0, 0))) : LnAt (w.setCell ⟨g, j, none⟩ v) 0 q x la lc ms := by
  have hk : ∀ k, k ≠ g → (w.setCell ⟨g, j, none⟩ v).heap[k]? = w.heap[k]? := fun k hk => Below.heap_setCell _ _ _ k hk
  refine ⟨(hk q (fun e => ?_)).trans h.row, own_mv9 h.own fun k hk' => hk k (fun e => ?_), h.its, fun m hm => OwnBs.grown (T := 5) (h.bs m hm) (fun k cs' fr _ hc => hk k (fun e => ?_)) (by simp), Nat.zero_le _⟩
  · subst e; exact absurd (kind_eq hg h.row) (by decide)
  · subst e
    obtain ⟨cur, hc⟩ := own_kind h.own (by rw [ownBlock_eq] at hk'; exact hk')
    exact absurd (kind_eq hg hc) (by decide)
  · subst e; exact absurd (kind_eq hg hc) (by decide)
theorem itemsOne (w : World) (m : MItem) (hm : OwnBs 5 w m) : ItemsAt (w.alloc (.cells #[.int .i64 m.t, .slice m.a m.n m.c] 40)) (w.heap.size + 1) (some ⟨w.heap.size, 0, none⟩) 1 1 [m] :=
  ⟨slAt_item w #[.int .i64 m.t, .slice m.a m.n m.c] 40 2 rfl, fun y hy => by
    rw [List.mem_singleton] at hy; subst hy
    have h1 := OwnBs.below hm ((Below.refl _ w).alloc (Nat.le_refl _) (.cells #[.int .i64 y.t, .slice y.a y.n y.c] 40))
    have h2 := h1.1
    simpa using h2⟩
theorem cell_lt9 {b o : Nat} {v : Value} (h : w.cell? ⟨b, o, none⟩ = some v) : b < w.heap.size := by
  by_cases hb : b < w.heap.size
  · exact hb
  · exfalso
    have h9 : w.heap[b]? = none := by rw [Array.getElem?_eq_none_iff]; omega
    simp [World.cell?, h9] at h
theorem cell_far9 {b k : Nat} (h : w'.heap[b]? = w.heap[b]?) : w'.cell? ⟨b, k, none⟩ = w.cell? ⟨b, k, none⟩ := by
  simp [World.cell?, h]
/-- two slices of an item each, just built -/
structure SmU (V : World) (m1 m2 : MItem) (U : World) (n1 n2 : Nat) : Prop where
  i1 : ItemsAt U U.heap.size (some ⟨n1, 0, none⟩) 1 1 [m1]
  i2 : ItemsAt U U.heap.size (some ⟨n2, 0, none⟩) 1 1 [m2]
  bl : Below V.heap.size V U
theorem SmU.ab (V : World) {m1 m2 : MItem} (h1 : OwnBs 5 V m1) (h2 : OwnBs 5 V m2) : SmU V m1 m2 ((V.alloc (.cells #[.int .i64 m1.t, .slice m1.a m1.n m1.c] 40)).alloc (.cells #[.int .i64 m2.t, .slice m2.a m2.n m2.c] 40)).drew V.heap.size (V.heap.size + 1) := by
  obtain ⟨X, hX⟩ : ∃ X, X = V.alloc (.cells #[.int .i64 m1.t, .slice m1.a m1.n m1.c] 40) := ⟨_, rfl⟩
  have b1 : Below V.heap.size V X := by rw [hX]; exact (Below.refl _ _).alloc (Nat.le_refl _) _
  have s1 : X.heap.size = V.heap.size + 1 := by rw [hX]; simp
  have i1 := itemsOne V m1 h1
  rw [← hX, ← s1] at i1
  have i2 := itemsOne X m2 (h2.below b1)
  rw [s1] at i2
  rw [← hX]
  obtain ⟨Y, hY⟩ : ∃ Y, Y = X.alloc (.cells #[.int .i64 m2.t, .slice m2.a m2.n m2.c] 40) := ⟨_, rfl⟩
  have b2 : Below X.heap.size X Y := by rw [hY]; exact (Below.refl _ _).alloc (Nat.le_refl _) _
  have s2 : Y.heap.size = X.heap.size + 1 := by rw [hY]; simp
  rw [← hY] at i2 ⊢
  have b3 : Below Y.heap.size Y Y.drew := (Below.refl _ _).drew
  refine ⟨((i1.below b2 (Nat.le_refl _)).mono b2.size).below b3 (Nat.le_refl _), (i2.mono (show _ ≤ Y.heap.size by omega)).below b3 (Nat.le_refl _), b1.trans ((b2.trans (b3.mono b2.size)).mono b1.size)⟩
theorem SmU.ba (V : World) {m1 m2 : MItem} (h1 : OwnBs 5 V m1) (h2 : OwnBs 5 V m2) : SmU V m1 m2 ((V.alloc (.cells #[.int .i64 m2.t, .slice m2.a m2.n m2.c] 40)).alloc (.cells #[.int .i64 m1.t, .slice m1.a m1.n m1.c] 40)).drew (V.heap.size + 1) V.heap.size :=
  let h := SmU.ab V h2 h1
  ⟨h.i2, h.i1, h.bl⟩
theorem wayS {F1 : World → Nat → Nat → Prop} {P : Prop} (F : World → Nat → Nat → Prop) (main : (∀ U n a, F U n a → F1 U n a) → P) (key : ∀ U n a, F U n a → F1 U n a) : P := main key
/-- what the drawn region that looks whether two items are the same keeps -/
structure SmS (g sb o ib n cap : Nat) (m1 m2 : MItem) (W : World) : Prop where
  s : g < W.heap.size
  r : W.cell? ⟨g, 8, none⟩ = some (.bool true)
  s5 : W.cell? ⟨g, 5, none⟩ = some (.slice (some ⟨sb, 0, none⟩) n cap)
  x0 : W.cell? ⟨sb, o, none⟩ = some (.int .i64 m2.t)
  x1 : W.cell? ⟨sb, o + 1, none⟩ = some (.slice m2.a m2.n m2.c)
  i0 : W.cell? ⟨ib, 0, none⟩ = some (.int .i64 m1.t)
  i1 : W.cell? ⟨ib, 1, none⟩ = some (.slice m1.a m1.n m1.c)

/-- what the drawn region that lays a ballot keeps -/
structure BzS (g bb : Nat) (t : Int) (i : Nat) (W : World) : Prop where
  s : g < W.heap.size
  c0 : W.cell? ⟨bb, 0, none⟩ = some (.int .i64 t)
  c1 : W.cell? ⟨bb, 1, none⟩ = some (.int .i64 i)
theorem LdW.bz (h : LdW w0 w B g c G M bb t i) : BzS g bb t i w := ⟨h.gr.lt (x := .g) rfl, h.c0, h.c1⟩
theorem infoBallots : (Tryz.prog.info? 65).map (·.size) = some 1 := by kernel_rfl
theorem infoBallotG : (Tryz.prog.info? 80).map (fun i => (i.zero, i.size, i.bytes)) = some (some (.agg #[.int .i64 0, .int .i64 0]), 2, 16) := by kernel_rfl

set_option maxRecDepth 100000 in
set_option maxHeartbeats 2000000 in
theorem l18leads {N : RMem} {p : Nat} {R : PRaft} (h : GrAt w B g i G M) (hR : G.rs[i]? = some R) (hq : M.ps[i]? = some (p, N)) (hok : R.Ok) (hr : G.right = true)
    (hll : G.led.length ≤ 1000000) (hsl : G.seen.length ≤ 1000000) (hwl : G.wh.length = G.seen.length) (hpe : N.ps = [])
    (hled : ∀ x ∈ G.led, x.1 = R.bt → x.2 = i) (hseen : ∀ (k : Nat) (x : PItem) (t : Int), G.seen[k]? = some x → G.wh[k]? = some t → t < R.bt → R.line.base < (k : Int) + 1 → (k : Int) + 1 ≤ R.line.last ∧ R.item ((k : Int) + 1) = x) :
    Calls Tryz.prog 63 #[.pointer (some ⟨g, 0, none⟩), .int .i64 i] w fun e w' => e = .returned (.tuple #[]) ∧ ∃ M', GrAt w' B g i (G.led1 R.bt i) M' ∧ M'.ps = M.ps ∧ Below B w w' := by
  obtain ⟨iB, jB, jB0, jB1, jB2⟩ := info_parts infoBallotG
  obtain ⟨b0, hb1, hb2, hb3⟩ := h.ptr hq
  have hi0 : (0 : Int) ≤ (i : Int) := by omega
  have hin : i < M.ps.length := (List.getElem?_eq_some_iff.1 hq).1
  have hi1 : (i : Int) < (M.ps.length : Int) := by omega
  have c0 : w.cell? ⟨g, 0, none⟩ = some (.slice (some ⟨b0, 0, none⟩) M.ps.length (M.rc 0)) := by rw [← hb1]; exact h.cl (i := 0) (by omega)
  obtain ⟨t, ht⟩ : ∃ t, t = R.bt := ⟨_, rfl⟩
  have HT := Lib.hid ht
  have HRF := Lib.hid (h.rf i R (p, N) hR hq)
  have H := Lib.hid h
  have HR := Lib.hid hR
  have HQ := Lib.hid hq
  have HRT := Lib.hid hr
  have HLED := Lib.hid hled
  have HSEEN := Lib.hid hseen
  have HWL := Lib.hid hwl
  have HPE := Lib.hid hpe
  clear h hR hq hr hled hseen hb1 ht hwl hpe
  go_enter Tryz.func63, Tryz.ntmps63
  go_wp2_with fail
  refine (raftTerm HRF.out).mono ?_
  rintro e w2 ⟨rfl, rfl⟩
  rw [← HT.out]
  clear c0
  have HL0 := Lib.hid (show LdW w (w.alloc (.cells #[.int .i64 t, .int .i64 i] 80)) B g i G M w.heap.size t i from
    ⟨H.out.below ((Below.refl _ _).alloc (Nat.le_refl _) _), ((Below.refl _ _).alloc (Nat.le_refl _) _).mono H.out.bs, heap_alloc_new w _, H.out.free (Nat.le_refl _)⟩)
  go_wp2_with fail
  obtain ⟨wo, hwo⟩ : ∃ wo : World, wo = w := ⟨_, rfl⟩
  go_loopw [5, 6] (fun fv iv wr => ∃ (k : Nat) (f : Bool), iv = .int .i64 k ∧ k ≤ G.led.length ∧ fv = .bool f ∧ (f = true ↔ ∀ x ∈ G.led.take k, x.1 ≠ t) ∧ LdW wo wr B g i G M wo.heap.size t i) (fun _ iv _ => G.led.length - (intOf iv).toNat)
  case atStart => exact ⟨0, true, rfl, by omega, rfl, by simp, by rw [hwo]; exact HL0.out⟩
  case round =>
    obtain ⟨k, f, rfl, hk, rfl, hf, hl⟩ := hrel
    have HL := Lib.hid hl
    have HF := Lib.hid hf
    clear hl hf
    subst hwo
    have c7 : wr.cell? ⟨g, 7, none⟩ = some (.slice (M.ra 7) G.led.length (M.rc 7)) := HL.out.gr.cl (i := 7) (by omega)
    have cr : wr.cell? ⟨g, 8, none⟩ = some (.bool true) := by rw [← HRT.out]; exact HL.out.gr.cr
    have fr := HL.out.gr.f 8
    have cb := HL.out.c0
    by_cases hkl : k < G.led.length
    · have t1 : decide ((k : Int) < (G.led.length : Int)) = true := decide_eq_true (by omega)
      have t1n : decide (k < G.led.length) = true := decide_eq_true hkl
      obtain ⟨x, hx⟩ : ∃ x, G.led[k]? = some x := ⟨_, List.getElem?_eq_getElem hkl⟩
      obtain ⟨q, hq1, hq2, hq3, hq4⟩ := HL.out.gr.at_ (i := 7) (by omega) (j := k * 2) (by show k * 2 < G.led.length * 2; omega)
      obtain ⟨q', hq1', hq2', _, _⟩ := HL.out.gr.at_ (i := 7) (by omega) (j := k * 2 + 1) (by show k * 2 + 1 < G.led.length * 2; omega)
      rw [hq1] at hq1'
      injection hq1' with e1; injection e1 with e1; subst e1
      have k0 : wr.cell? ⟨q, k * 2, none⟩ = some (.int .i64 x.1) := hq2.trans (ledGet _ hx).1
      have k1 : wr.cell? ⟨q, k * 2 + 1, none⟩ = some (.int .i64 x.2) := hq2'.trans (ledGet _ hx).2
      rw [hq1] at c7
      have hk0 : (0 : Int) ≤ (k : Int) := by omega
      have hk1 : (k : Int) < (G.led.length : Int) := by omega
      have hxm := List.mem_of_getElem? hx
      have HX := Lib.hid hx
      clear hx hq1 hq2 hq2' hq3
      by_cases hxt : x.1 = t
      · have tx : (x.1 == t) = true := by simpa using hxt
        have hxi : x.2 = i := HLED.out x hxm (by rw [← HT.out]; exact hxt)
        have ti : (x.2 == (i : Int)) = true := by simpa using hxi
        have HXT := Lib.hid hxt
        have HXI := Lib.hid hxi
        clear hxt hxi hxm
        go_wp2_with fail
        go_quiet (fail)
        go_wp2_with fail
        have HLN := Lib.hid ((HL.out.below (below_drewN wr nq)).right HRT.out)
        go_roundw
        case rel =>
          refine ⟨k + 1, false, by go_num, by omega, rfl, ?_, HLN.out⟩
          rw [List.take_add_one, HX.out]
          constructor
          · intro e; cases e
          · intro e; exact absurd HXT.out (e x (by simp))
        case measure => simp [intOf]; omega
      · have tx : (x.1 == t) = false := by simpa using hxt
        have HXT := Lib.hid hxt
        clear hxt hxm
        go_wp2_with fail
        go_quiet (fail)
        go_wp2_with fail
        have HLN := Lib.hid (HL.out.below (below_drewN wr nq))
        go_roundw
        case rel =>
          refine ⟨k + 1, f, by go_num, by omega, rfl, ?_, HLN.out⟩
          rw [List.take_add_one, HX.out, HF.out]
          constructor
          · intro e y hy
            rw [List.mem_append] at hy
            rcases hy with hy | hy
            · exact e y hy
            · simp at hy; subst hy; exact HXT.out
          · intro e y hy
            exact e y (List.mem_append.2 (.inl hy))
        case measure => simp [intOf]; omega
    · have t1 : decide ((k : Int) < (G.led.length : Int)) = false := decide_eq_false (by omega)
      have t1n : decide (k < G.led.length) = false := decide_eq_false hkl
      have HF2 := Lib.hid (show f = true ↔ ∀ x ∈ G.led, x.1 ≠ t by rw [HF.out, List.take_of_length_le (by omega)])
      clear HF
      obtain ⟨GL, hGL⟩ : ∃ GL, GL = G.led1 t i := ⟨_, rfl⟩
      have HGL := Lib.hid hGL
      clear hGL
      go_upto_if 62 with fail
      go_cut [] (fun wc => ∃ M', LdW wo wc B g i GL M' wo.heap.size t i ∧ M'.ps = M.ps)
      case first =>
        cases f with
        | false =>
          have HLF := Lib.hid (show LdW wo wr B g i GL M wo.heap.size t i by
            rw [HGL.out]; unfold PGroup.led1; rw [if_neg (fun e => by have := HF2.out.2 e; cases this)]; exact HL.out)
          go_wp2_with fail
          go_meet
          exact ⟨M, HLF.out, rfl⟩
        | true =>
          have HGE := Lib.hid (show GL = { G with led := G.led ++ [(t, (i : Int))] } by rw [HGL.out]; unfold PGroup.led1; rw [if_pos (HF2.out.1 rfl)])
          clear cr fr cb c7
          go_wp2_with fail
          refine wp_region_any (by kernel_rfl) ?_
          refine wpAny_of_held (S := BzS g wo.heap.size t i) _ _ _ _ ?_
          have hdr : Below wr.heap.size wr wr.drew := (Below.refl _ _).drew
          have HG9 := Lib.hid (HL.out.below hdr)
          have hS0 : BzS g wo.heap.size t i wr.drew := HG9.out.bz
          refine heldTake 0 63 rfl rfl (by kernel_rfl) (by kernel_rfl) (by kernel_rfl) (fun _ _ _ h => h) hS0 (.inl ⟨by rfl, by intro w' hS; obtain ⟨s1, s2, s3⟩ := hS; go_simp; (try rfl)⟩) ?_
          simp only [List.set_cons_zero, List.set_cons_succ]
          refine heldTake 1 64 rfl rfl (by kernel_rfl) (by kernel_rfl) (by kernel_rfl) (fun _ _ _ h => h) hS0 (.inl ⟨by rfl, by intro w' hS; obtain ⟨s1, s2, s3⟩ := hS; go_simp; (try rfl)⟩) ?_
          simp only [List.set_cons_zero, List.set_cons_succ]
          refine heldTake 5 68 rfl rfl (by kernel_rfl) (by kernel_rfl) (by kernel_rfl) (fun _ _ _ h => h) hS0 (.inl ⟨by rfl, by intro w' hS; obtain ⟨s1, s2, s3⟩ := hS; go_simp; (try rfl)⟩) ?_
          simp only [List.set_cons_zero, List.set_cons_succ]
          refine heldTake 2 65 rfl rfl (by kernel_rfl) (by kernel_rfl) (by kernel_rfl) (fun _ _ _ h => h) hS0 (.inl ⟨by rfl, by intro w' hS; obtain ⟨s1, s2, s3⟩ := hS; go_simp; (try rfl)⟩) ?_
          simp only [List.set_cons_zero, List.set_cons_succ]
          refine heldTake 3 66 rfl rfl (by kernel_rfl) (by kernel_rfl) (by kernel_rfl) (fun _ _ _ h => h) hS0 (.inl ⟨by rfl, by intro w' hS; obtain ⟨s1, s2, s3⟩ := hS; go_simp; (try rfl)⟩) ?_
          simp only [List.set_cons_zero, List.set_cons_succ]
          have HS0 := Lib.hid hS0
          clear hS0
          obtain ⟨U, hU⟩ : ∃ U, U = (wr.alloc (.cells #[.int .i64 t, .int .i64 i] 80)).drew := ⟨_, rfl⟩
          have hbU : Below wr.heap.size wr U := by rw [hU]; exact ((Below.refl _ _).alloc (Nat.le_refl _) _).drew
          have HLU := Lib.hid (HL.out.below hbU)
          have HIT := Lib.hid (show SlAt U U.heap.size 2 (some ⟨wr.heap.size, 0, none⟩) 1 1 [.int .i64 t, .int .i64 i] by
            rw [show U.heap.size = wr.heap.size + 1 by rw [hU]; simp, hU]
            exact (slAt_item wr #[.int .i64 t, .int .i64 i] 80 2 rfl).below (show Below (wr.heap.size + 1) (wr.alloc (.cells #[.int .i64 t, .int .i64 i] 80)) _ from (Below.refl _ _).drew) (Nat.le_refl _))
          have HU := Lib.hid hU
          have HSU := Lib.hid HLU.out.bz
          clear hbU hU
          apply wayU (fun U' => U' = U)
          intro hway
          refine wpAnyH_two (i := 4) (j := 6) (by kernel_rfl) (wpOp_wp rfl (by rfl) ?_) (wpOp_wp rfl (by rfl) ?_)
          · have p4 : wr.drew.cell? ⟨g, 7, none⟩ = some (.slice (M.ra 7) G.led.length (M.rc 7)) := HG9.out.gr.cl (i := 7) (by omega)
            go_simp
            clear p4
            refine ⟨HS0.out, ?_⟩
            refine heldOne 6 (by kernel_rfl) rfl (by rfl) ?_
            go_simp
            rw [← HU.out]
            refine ⟨HSU.out, ?_⟩
            exact hway U rfl
          · go_simp
            rw [← HU.out]
            refine ⟨HSU.out, ?_⟩
            refine heldOne 4 (by kernel_rfl) rfl (by rfl) ?_
            have p4 : U.cell? ⟨g, 7, none⟩ = some (.slice (M.ra 7) G.led.length (M.rc 7)) := HLU.out.gr.cl (i := 7) (by omega)
            go_simp
            clear p4
            refine ⟨HSU.out, ?_⟩
            exact hway U rfl
          rintro U' rfl
          refine heldOne 7 (by kernel_rfl) rfl (by rfl) ?_
          refine wp_append_sl U' (.tmp 67) (.tmp 69) 65 rfl 0 80 iB (.agg #[.int .i64 0, .int .i64 0]) 2 16 Tryz.underlying65 jB jB0 jB1 jB2 rfl (by decide) (.slice (M.ra 7) G.led.length (M.rc 7)) G.led.length (G.led.flatMap ledCells) rfl (HLU.out.gr.rows 7 (by omega)) U'.heap.size (some ⟨wr.heap.size, 0, none⟩) 1 1 [.int .i64 t, .int .i64 i] rfl HIT.out (by intro u hu; simp at hu; rcases hu with rfl | rfl <;> rfl) (by unfold maxLen; omega) (by omega) (Nat.zero_le _) ?_
          intro a11 c11 W11 o11 g11 hat11
          have hadd := HLU.out.gr.addLed (t, (i : Int)) o11 g11 hat11
          obtain ⟨p2, f2⟩ := HLU.out.gr.cell1 (i := 7) (by omega) g11
          have hbb : (rowV G M 7).ownBlock ≠ some wo.heap.size := fun e => by
            unfold rowV at e
            rw [ownBlock_eq] at e
            exact HLU.out.bf.2 (.row 7) ⟨by omega, e⟩
          have hbx : W11.heap[wo.heap.size]? = some (.cells #[.int .i64 t, .int .i64 i] 80 (0, 0)) := (g11.block wo.heap.size (Array.getElem?_eq_some_iff.1 HLU.out.bx).1 (fun e => hbb e.symm)).trans HLU.out.bx
          have hS11 : BzS g wo.heap.size t i W11 := ⟨Nat.lt_of_lt_of_le HSU.out.s g11.size, by rw [cell_of_row _ _ 0 _ _ _ hbx]; rfl, by rw [cell_of_row _ _ 1 _ _ _ hbx]; rfl⟩
          refine ⟨hS11, ?_⟩
          go_simp
          refine heldTake 8 71 rfl rfl (by kernel_rfl) (by kernel_rfl) (by kernel_rfl) (fun _ _ _ h => h) hS11 (.inl ⟨by rfl, by intro w' hS; obtain ⟨s1, s2, s3⟩ := hS; go_simp; (try rfl)⟩) ?_
          simp only [List.set_cons_zero, List.set_cons_succ]
          refine heldTake 9 72 rfl rfl (by kernel_rfl) (by kernel_rfl) (by kernel_rfl) (fun _ _ _ h => h) hS11 (.inl ⟨by rfl, by intro w' hS; obtain ⟨s1, s2, s3⟩ := hS; go_simp; (try rfl)⟩) ?_
          simp only [List.set_cons_zero, List.set_cons_succ]
          refine heldOne 10 (by kernel_rfl) rfl (by rfl) ?_
          refine wp_store_cell 65 (.tmp 72) (.tmp 70) rfl g 7 (.slice a11 (G.led.length + 1) c11) _ rfl rfl rfl infoBallots p2 f2 ?_
          have hbl := HLU.out.gr.grewBelow (i := 7) (by omega) g11 7 (.slice a11 (G.led.length + 1) c11)
          obtain ⟨W12, hW12⟩ : ∃ W12, W12 = W11.setCell ⟨g, 7, none⟩ (.slice a11 (G.led.length + 1) c11) := ⟨_, rfl⟩
          have hbx2 : W12.heap[wo.heap.size]? = some (.cells #[.int .i64 t, .int .i64 i] 80 (0, 0)) := by
            rw [hW12]; exact (Below.heap_setCell _ _ _ _ (fun e => HLU.out.bf.2 .g (show wo.heap.size = g from e))).trans hbx
          rw [← hW12] at hadd hbl ⊢
          have HL12 := Lib.hid (show LdW wo W12 B g i GL { M with ra := upd M.ra 7 a11, rc := upd M.rc 7 c11 } wo.heap.size t i from
            ⟨by rw [HGE.out]; exact hadd, HLU.out.bl.trans (hbl), hbx2, ⟨HLU.out.bf.1, fun x hx => by
              have h9 : LdW wo U' B g i G M wo.heap.size t i := HLU.out
              cases x with
              | g => exact h9.bf.2 .g hx
              | raft j => exact h9.bf.2 (.raft j) hx
              | nts j => exact h9.bf.2 (.nts j) hx
              | row j =>
                obtain ⟨hj, hk⟩ : j < 8 ∧ (upd M.ra 7 a11 j).map (·.block) = some wo.heap.size := hx
                by_cases e7 : j = 7
                · subst e7
                  rw [upd_same] at hk
                  rw [ownBlock_eq] at hat11
                  rcases hat11 with e | e
                  · rw [hk] at e; exact hbb e.symm
                  · rw [hk] at e
                    injection e with e
                    have := (Array.getElem?_eq_some_iff.1 h9.bx).1
                    omega
                · rw [upd_other _ _ e7] at hk
                  exact h9.bf.2 (.row j) ⟨hj, hk⟩⟩⟩)
          have hS12 : BzS g wo.heap.size t i W12 := HL12.out.bz
          refine ⟨hS12, wpAnyH_done (by kernel_rfl) ?_ _⟩
          clear hS11 hS12 p2 f2 hbb hbx hbx2 hadd hbl hW12 o11 g11 hat11 hdr
          go_wp2_with fail
          go_meet
          exact ⟨_, HL12.out, rfl⟩
      case rest =>
        obtain ⟨M2, hl2, hm2⟩ := hcut
        have HL2 := Lib.hid hl2
        have HM2 := Lib.hid hm2
        clear hl2 hm2
        have HGE := Lib.hid (show GL.rs = G.rs ∧ GL.seen = G.seen ∧ GL.wh = G.wh ∧ GL.right = true by
          rw [HGL.out]; unfold PGroup.led1; split <;> exact ⟨rfl, rfl, rfl, HRT.out⟩)
        have HP2 := Lib.hid (show M2.ps[i]? = some (p, N) by rw [HM2.out]; exact HQ.out)
        have HRF2 := Lib.hid (HL2.out.gr.rf i R (p, N) (by rw [HGE.out.1]; exact HR.out) HP2.out)
        obtain ⟨b2, hb21, hb22, hb23⟩ := HL2.out.gr.ptr HP2.out
        have hlen2 : M2.ps.length = M.ps.length := by rw [HM2.out]
        have hi2 : (i : Int) < (M2.ps.length : Int) := by omega
        have c0 : wc.cell? ⟨g, 0, none⟩ = some (.slice (some ⟨b2, 0, none⟩) M2.ps.length (M2.rc 0)) := by rw [← hb21]; exact HL2.out.gr.cl (i := 0) (by omega)
        clear hb21 hlen2
        go_wp2_with fail
        refine (raftLine hok.line HRF2.out).mono ?_
        rintro e w3 ⟨q, la, lc, rfl, hln3, hbe3, hq3⟩
        have HLN3 := Lib.hid (LineAt.mono0 hln3)
        have HL3 := Lib.hid (HL2.out.below hbe3)
        clear hln3 hbe3 c0 hb22
        go_wp2_with fail
        refine (lineBase 0 q R.line la lc N.ms _ HLN3.out).mono ?_
        rintro e w4 ⟨rfl, m4, rfl⟩
        have HLN4 := Lib.hid (HLN3.out.drewN m4)
        have HL4 := Lib.hid (HL3.out.below (below_drewN w3 m4))
        go_wp2_with fail
        have hbase := hok.line.b0
        have hbase1 := hok.line.b1
        obtain ⟨bs, hbs⟩ : ∃ bs, bs = R.line.base := ⟨_, rfl⟩
        rw [← hbs] at hbase hbase1 ⊢
        have HBS := Lib.hid hbs
        clear hbs
        go_loopw [10] (fun iv wr => ∃ k : Nat, iv = .int .i64 k ∧ k ≤ GL.seen.length ∧ LdW wo wr B g i GL M2 wo.heap.size t i ∧ LnAt wr 0 q R.line la lc N.ms) (fun iv _ => GL.seen.length - (intOf iv).toNat)
        case atStart => exact ⟨0, rfl, by omega, HL4.out, HLN4.out⟩
        case round =>
          obtain ⟨j, rfl, hj, hl5, hln5⟩ := hrel
          have HL5 := Lib.hid hl5
          have HLN5 := Lib.hid hln5
          clear hl5 hln5
          have d5 : wr.cell? ⟨g, 5, none⟩ = some (.slice (M2.ra 5) M2.ss.length (M2.rc 5)) := HL5.out.gr.cl (i := 5) (by omega)
          have hss : M2.ss.length = GL.seen.length := by rw [← HL5.out.gr.ct.sq]; simp
          rw [hss] at d5
          by_cases hjl : j < GL.seen.length
          · have t2 : decide ((j : Int) < (GL.seen.length : Int)) = true := decide_eq_true (by omega)
            have t2n : decide (j < GL.seen.length) = true := decide_eq_true hjl
            have hwl2 : GL.wh.length = GL.seen.length := by rw [HGE.out.2.1, HGE.out.2.2.1]; exact HWL.out
            obtain ⟨x, hx⟩ : ∃ x, GL.seen[j]? = some x := ⟨_, List.getElem?_eq_getElem hjl⟩
            obtain ⟨y, hy⟩ : ∃ y, GL.wh[j]? = some y := ⟨_, List.getElem?_eq_getElem (by omega)⟩
            obtain ⟨ms, hms⟩ : ∃ ms, M2.ss[j]? = some ms := ⟨_, List.getElem?_eq_getElem (by omega)⟩
            have hmx : ms.it = x := by
              have h9 := HL5.out.gr.ct.sq
              have h8 : (M2.ss.map MItem.it)[j]? = some x := by rw [h9]; exact hx
              rw [List.getElem?_map, hms] at h8
              injection h8
            obtain ⟨q6, hq61, hq62, _, _⟩ := HL5.out.gr.at_ (i := 6) (by omega) (j := j) (by show j < GL.wh.length * 1; omega)
            obtain ⟨q5, hq51, hq52, _, hq54⟩ := HL5.out.gr.at_ (i := 5) (by omega) (j := j * 2) (by show j * 2 < M2.ss.length * 2; omega)
            obtain ⟨q5', hq51', hq52', _, _⟩ := HL5.out.gr.at_ (i := 5) (by omega) (j := j * 2 + 1) (by show j * 2 + 1 < M2.ss.length * 2; omega)
            rw [hq51] at hq51'
            injection hq51' with e1; injection e1 with e1; subst e1
            have d6 : wr.cell? ⟨g, 6, none⟩ = some (.slice (some ⟨q6, 0, none⟩) GL.wh.length (M2.rc 6)) := by rw [← hq61]; exact HL5.out.gr.cl (i := 6) (by omega)
            rw [hwl2] at d6
            have k6 : wr.cell? ⟨q6, j, none⟩ = some (.int .i64 y) := by
              rw [hq62]; show (GL.wh.map iz)[j]? = _; rw [List.getElem?_map, hy]; rfl
            have HX0 := Lib.hid (show wr.cell? ⟨q5, j * 2, none⟩ = some (.int .i64 ms.t) ∧ wr.cell? ⟨q5, j * 2 + 1, none⟩ = some (.slice ms.a ms.n ms.c) from ⟨hq52.trans (cellsM_at _ _ _ hms).1, hq52'.trans (cellsM_at _ _ _ hms).2⟩)
            rw [hq51] at d5
            have HQ5 := Lib.hid hq51
            have hj0 : (0 : Int) ≤ (j : Int) := by omega
            have hj1 : (j : Int) < (GL.seen.length : Int) := by omega
            have d4 := HL5.out.c0
            have HMX := Lib.hid hmx
            have HOWN2 := Lib.hid (HL5.out.gr.ct.sb ms (List.mem_of_getElem? hms))
            have hsx : GL.seen.length ≤ 1000000 := by rw [HGE.out.2.1]; exact hsl
            have HSE := Lib.hid (fun h1 h2 => HSEEN.out j x y (by rw [← HGE.out.2.1]; exact hx) (by rw [← HGE.out.2.2.1]; exact hy) h1 h2)
            clear hx hy hms hmx hq61 hq62 hq51 hq52 hq52' hss hwl2
            by_cases hty : t ≤ y
            · have ty : decide (t ≤ y) = true := decide_eq_true hty
              clear hty
              go_wp2_with fail
              go_quiet (fail)
              have HN := Lib.hid (HL5.out.below (below_drewN wr nq))
              have HLL := Lib.hid (HLN5.out.drewN nq)
              go_wp2_with fail
              go_roundw
              case rel => exact ⟨j + 1, by go_num, by omega, HN.out, HLL.out⟩
              case measure => simp [intOf]; omega
            · have ty : decide (t ≤ y) = false := decide_eq_false hty
              by_cases hjb : (j : Int) + 1 ≤ bs
              · have tb : decide ((j : Int) + 1 ≤ bs) = true := decide_eq_true hjb
                clear hty hjb
                go_wp2_with fail
                go_quiet (fail)
                have HN := Lib.hid (HL5.out.below (below_drewN wr nq))
                have HLL := Lib.hid (HLN5.out.drewN nq)
                go_wp2_with fail
                go_roundw
                case rel => exact ⟨j + 1, by go_num, by omega, HN.out, HLL.out⟩
                case measure => simp [intOf]; omega
              · have tb : decide ((j : Int) + 1 ≤ bs) = false := decide_eq_false hjb
                obtain ⟨hk1, hk2⟩ := HSE.out (by rw [← HT.out]; omega) (by rw [← HBS.out]; omega)
                have HK := Lib.hid (show R.line.base < (j : Int) + 1 ∧ (j : Int) + 1 ≤ R.line.last from ⟨by rw [← HBS.out]; omega, hk1⟩)
                have HIX := Lib.hid (show R.line.l.getD ((j : Int) + 1 - R.line.base - 1).toNat (0, []) = ms.it by
                  rw [HMX.out, ← hk2]; unfold PRaft.item; rw [if_pos HK.out])
                clear hty hjb hk1 hk2
                go_wp2_with fail
                go_quiet (fail)
                have HN := Lib.hid (HL5.out.below (below_drewN wr nq))
                have HLL := Lib.hid (HLN5.out.drewN nq)
                have HX1 := Lib.hid (show (wr.drewN nq).cell? ⟨q5, j * 2, none⟩ = some (.int .i64 ms.t) ∧ (wr.drewN nq).cell? ⟨q5, j * 2 + 1, none⟩ = some (.slice ms.a ms.n ms.c) from HX0.out)
                have HOWN3 := Lib.hid (HOWN2.out.below (below_drewN wr nq))
                obtain ⟨wn, hwn⟩ : ∃ wn, wn = wr.drewN nq := ⟨_, rfl⟩
                rw [← hwn] at HN HLL HX1 HOWN3
                go_wp2_with fail
                rw [← hwn]
                refine (lineItemO 0 q R.line hok.line la lc N.ms ((j : Int) + 1) _ HLL.out).mono ?_
                intro e w6 hi6
                unfold ItemToO at hi6
                rw [if_pos HK.out, HIX.out] at hi6
                obtain ⟨a6, c6, rfl, hown6, hbe6⟩ := hi6
                have HB6 := Lib.hid hbe6
                obtain ⟨m1, hm1⟩ : ∃ m1 : MItem, m1 = ⟨ms.t, a6, ms.b.length, c6, ms.b⟩ := ⟨_, rfl⟩
                obtain ⟨V, hV⟩ : ∃ V, V = w6.alloc (.cells #[.int .i64 ms.t, .slice a6 ms.b.length c6] 40) := ⟨_, rfl⟩
                have hbV : Below w6.heap.size w6 V := by rw [hV]; exact (Below.refl _ _).alloc (Nat.le_refl _) _
                have hrV : V.heap[w6.heap.size]? = some (.cells #[.int .i64 m1.t, .slice m1.a m1.n m1.c] 40 (0, 0)) := by rw [hV, hm1]; exact heap_alloc_new w6 _
                have hbnV : Below wn.heap.size wn V := hbe6.trans (hbV.mono hbe6.size)
                have HLV := Lib.hid (HN.out.below hbnV)
                have HLLV := Lib.hid (LineAt.below HLL.out hbnV)
                have HO1 := Lib.hid (show OwnBs 5 V m1 by
                  have h9 := OwnBs.below hown6 hbV
                  rw [hm1]; exact ⟨⟨h9.1.hlen, h9.1.hle, h9.1.hmax, h9.1.hnil, h9.1.hbig, h9.1.hat⟩, h9.2⟩)
                have HO2 := Lib.hid (HOWN3.out.below hbnV)
                have HSAME := Lib.hid (show decide (([m1] : List MItem).map MItem.it = ([ms] : List MItem).map MItem.it) = true by rw [hm1]; exact decide_eq_true rfl)
                have hc5 : V.cell? ⟨g, 5, none⟩ = some (.slice (some ⟨q5, 0, none⟩) GL.seen.length (M2.rc 5)) := by
                  have h9 := HLV.out.gr.cl (i := 5) (by omega)
                  rw [h9]; unfold rowV
                  have h8 : rowN GL M2 5 = GL.seen.length := by show M2.ss.length = _; rw [← HLV.out.gr.ct.sq]; simp
                  rw [h8, HQ5.out]
                have hcV : V.cell? ⟨q5, j * 2, none⟩ = some (.int .i64 ms.t) ∧ V.cell? ⟨q5, j * 2 + 1, none⟩ = some (.slice ms.a ms.n ms.c) := by
                  have hq5 : q5 < wn.heap.size := by rw [hwn]; exact hq54
                  exact ⟨(hbnV.cell (p := ⟨q5, j * 2, none⟩) hq5).trans HX1.out.1, (hbnV.cell (p := ⟨q5, j * 2 + 1, none⟩) hq5).trans HX1.out.2⟩
                have HSV := Lib.hid (show SmS g q5 (j * 2) w6.heap.size GL.seen.length (M2.rc 5) m1 ms V from
                  ⟨HLV.out.gr.lt (x := .g) rfl, by rw [← HGE.out.2.2.2]; exact HLV.out.gr.cr, hc5, hcV.1, hcV.2, by rw [cell_of_row _ _ 0 _ _ _ hrV]; rfl, by rw [cell_of_row _ _ 1 _ _ _ hrV]; rfl⟩)
                have HV := Lib.hid hV
                have HM1 := Lib.hid hm1
                have hw6 : w6.heap.size < V.heap.size := (Array.getElem?_eq_some_iff.1 hrV).1
                have HRV := Lib.hid hrV
                clear d4 d5 d6 k6 hwn hV hbV hrV hbnV hown6 hbe6 hc5 hcV hm1
                go_wp2_with fail
                rw [← HV.out]
                refine wp_region_any (by kernel_rfl) ?_
                refine wpAny_of_held (S := SmS g q5 (j * 2) w6.heap.size GL.seen.length (M2.rc 5) m1 ms) _ _ _ _ ?_
                have hdr : Below V.heap.size V V.drew := (Below.refl _ _).drew
                have hS0 : SmS g q5 (j * 2) w6.heap.size GL.seen.length (M2.rc 5) m1 ms V.drew := ⟨HSV.out.s, HSV.out.r, HSV.out.s5, HSV.out.x0, HSV.out.x1, HSV.out.i0, HSV.out.i1⟩
                refine heldTake 0 123 rfl rfl (by kernel_rfl) (by kernel_rfl) (by kernel_rfl) (fun _ _ _ h => h) hS0 (.inl ⟨by rfl, by intro w' hS; obtain ⟨s1, s2, s3, s4, s5, s6, s7⟩ := hS; go_simp; (try rfl)⟩) ?_
                simp only [List.set_cons_zero, List.set_cons_succ]
                refine heldTake 1 124 rfl rfl (by kernel_rfl) (by kernel_rfl) (by kernel_rfl) (fun _ _ _ h => h) hS0 (.inl ⟨by rfl, by intro w' hS; obtain ⟨s1, s2, s3, s4, s5, s6, s7⟩ := hS; go_simp; (try rfl)⟩) ?_
                simp only [List.set_cons_zero, List.set_cons_succ]
                refine heldTake 2 125 rfl rfl (by kernel_rfl) (by kernel_rfl) (by kernel_rfl) (fun _ _ _ h => h) hS0 (.inl ⟨by rfl, by intro w' hS; obtain ⟨s1, s2, s3, s4, s5, s6, s7⟩ := hS; go_simp; (try rfl)⟩) ?_
                simp only [List.set_cons_zero, List.set_cons_succ]
                refine heldTake 3 126 rfl rfl (by kernel_rfl) (by kernel_rfl) (by kernel_rfl) (fun _ _ _ h => h) hS0 (.inl ⟨by rfl, by intro w' hS; obtain ⟨s1, s2, s3, s4, s5, s6, s7⟩ := hS; go_simp; (try rfl)⟩) ?_
                simp only [List.set_cons_zero, List.set_cons_succ]
                refine heldTake 4 127 rfl rfl (by kernel_rfl) (by kernel_rfl) (by kernel_rfl) (fun _ _ _ h => h) hS0 (.inl ⟨by rfl, by intro w' hS; obtain ⟨s1, s2, s3, s4, s5, s6, s7⟩ := hS; go_simp; (try rfl)⟩) ?_
                simp only [List.set_cons_zero, List.set_cons_succ]
                refine heldTake 5 128 rfl rfl (by kernel_rfl) (by kernel_rfl) (by kernel_rfl) (fun _ _ _ h => h) hS0 (.inl ⟨by rfl, by intro w' hS; obtain ⟨s1, s2, s3, s4, s5, s6, s7⟩ := hS; go_simp; (try rfl)⟩) ?_
                simp only [List.set_cons_zero, List.set_cons_succ]
                refine heldTake 6 129 rfl rfl (by kernel_rfl) (by kernel_rfl) (by kernel_rfl) (fun _ _ _ h => h) hS0 (.inl ⟨by rfl, by intro w' hS; obtain ⟨s1, s2, s3, s4, s5, s6, s7⟩ := hS; go_simp; (try rfl)⟩) ?_
                simp only [List.set_cons_zero, List.set_cons_succ]
                refine heldTake 7 130 rfl rfl (by kernel_rfl) (by kernel_rfl) (by kernel_rfl) (fun _ _ _ h => h) hS0 (.inl ⟨by rfl, by intro w' hS; obtain ⟨s1, s2, s3, s4, s5, s6, s7⟩ := hS; go_simp; (try rfl)⟩) ?_
                simp only [List.set_cons_zero, List.set_cons_succ]
                refine heldTake 8 131 rfl rfl (by kernel_rfl) (by kernel_rfl) (by kernel_rfl) (fun _ _ _ h => h) hS0 (.inl ⟨by rfl, by intro w' hS; obtain ⟨s1, s2, s3, s4, s5, s6, s7⟩ := hS; go_simp; (try rfl)⟩) ?_
                simp only [List.set_cons_zero, List.set_cons_succ]
                refine heldTake 9 132 rfl rfl (by kernel_rfl) (by kernel_rfl) (by kernel_rfl) (fun _ _ _ h => h) hS0 (.inl ⟨by rfl, by intro w' hS; obtain ⟨s1, s2, s3, s4, s5, s6, s7⟩ := hS; go_simp; (try rfl)⟩) ?_
                simp only [List.set_cons_zero, List.set_cons_succ]
                refine heldTake 11 134 rfl rfl (by kernel_rfl) (by kernel_rfl) (by kernel_rfl) (fun _ _ _ h => h) hS0 (.inl ⟨by rfl, by intro w' hS; obtain ⟨s1, s2, s3, s4, s5, s6, s7⟩ := hS; go_simp; (try rfl)⟩) ?_
                simp only [List.set_cons_zero, List.set_cons_succ]
                refine heldTake 15 138 rfl rfl (by kernel_rfl) (by kernel_rfl) (by kernel_rfl) (fun _ _ _ h => h) hS0 (.inl ⟨by rfl, by intro w' hS; obtain ⟨s1, s2, s3, s4, s5, s6, s7⟩ := hS; go_simp; (try rfl)⟩) ?_
                simp only [List.set_cons_zero, List.set_cons_succ]
                refine heldTake 12 135 rfl rfl (by kernel_rfl) (by kernel_rfl) (by kernel_rfl) (fun _ _ _ h => h) hS0 (.inl ⟨by rfl, by intro w' hS; obtain ⟨s1, s2, s3, s4, s5, s6, s7⟩ := hS; go_simp; (try rfl)⟩) ?_
                simp only [List.set_cons_zero, List.set_cons_succ]
                refine heldTake 13 136 rfl rfl (by kernel_rfl) (by kernel_rfl) (by kernel_rfl) (fun _ _ _ h => h) hS0 (.inl ⟨by rfl, by intro w' hS; obtain ⟨s1, s2, s3, s4, s5, s6, s7⟩ := hS; go_simp; (try rfl)⟩) ?_
                simp only [List.set_cons_zero, List.set_cons_succ]
                refine heldTake 14 137 rfl rfl (by kernel_rfl) (by kernel_rfl) (by kernel_rfl) (fun _ _ _ h => h) hS0 (.inl ⟨by rfl, by intro w' hS; obtain ⟨s1, s2, s3, s4, s5, s6, s7⟩ := hS; go_simp; (try rfl)⟩) ?_
                simp only [List.set_cons_zero, List.set_cons_succ]
                refine heldTake 16 139 rfl rfl (by kernel_rfl) (by kernel_rfl) (by kernel_rfl) (fun _ _ _ h => h) hS0 (.inl ⟨by rfl, by intro w' hS; obtain ⟨s1, s2, s3, s4, s5, s6, s7⟩ := hS; go_simp; (try rfl)⟩) ?_
                simp only [List.set_cons_zero, List.set_cons_succ]
                refine heldTake 17 140 rfl rfl (by kernel_rfl) (by kernel_rfl) (by kernel_rfl) (fun _ _ _ h => h) hS0 (.inl ⟨by rfl, by intro w' hS; obtain ⟨s1, s2, s3, s4, s5, s6, s7⟩ := hS; go_simp; (try rfl)⟩) ?_
                simp only [List.set_cons_zero, List.set_cons_succ]
                have HS0 := Lib.hid hS0
                clear hS0
                have HKS := Lib.hid (show ∀ U, Below V.heap.size V U → SmS g q5 (j * 2) w6.heap.size GL.seen.length (M2.rc 5) m1 ms U from fun U hb => by
                  have hl9 := HLV.out.below hb
                  have hg5 : q5 < V.heap.size := by
                    have h9 := HSV.out.x0
                    exact cell_lt9 h9
                  exact ⟨Nat.lt_of_lt_of_le HSV.out.s hb.size, (hb.cell (p := ⟨g, 8, none⟩) HSV.out.s).trans HSV.out.r, (hb.cell (p := ⟨g, 5, none⟩) HSV.out.s).trans HSV.out.s5, (hb.cell (p := ⟨q5, j * 2, none⟩) hg5).trans HSV.out.x0, (hb.cell (p := ⟨q5, j * 2 + 1, none⟩) hg5).trans HSV.out.x1, (hb.cell (p := ⟨w6.heap.size, 0, none⟩) hw6).trans HSV.out.i0, (hb.cell (p := ⟨w6.heap.size, 1, none⟩) hw6).trans HSV.out.i1⟩)
                apply wayS (fun U n1 n2 => SmU V m1 ms U n1 n2)
                intro hway
                obtain ⟨UA, hUA⟩ : ∃ UA, UA = ((V.alloc (.cells #[.int .i64 m1.t, .slice m1.a m1.n m1.c] 40)).alloc (.cells #[.int .i64 ms.t, .slice ms.a ms.n ms.c] 40)).drew := ⟨_, rfl⟩
                obtain ⟨UB, hUB⟩ : ∃ UB, UB = ((V.alloc (.cells #[.int .i64 ms.t, .slice ms.a ms.n ms.c] 40)).alloc (.cells #[.int .i64 m1.t, .slice m1.a m1.n m1.c] 40)).drew := ⟨_, rfl⟩
                have HUA := Lib.hid hUA
                have HUB := Lib.hid hUB
                have hab := SmU.ab V HO1.out HO2.out
                have hba := SmU.ba V HO1.out HO2.out
                rw [← hUA] at hab
                rw [← hUB] at hba
                have HAB := Lib.hid hab
                have HBA := Lib.hid hba
                clear hUA hUB hab hba
                have HA1 := Lib.hid (show SmS g q5 (j * 2) w6.heap.size GL.seen.length (M2.rc 5) m1 ms (V.alloc (.cells #[.int .i64 m1.t, .slice m1.a m1.n m1.c] 40)).drew from HKS.out _ (((Below.refl _ V).alloc (Nat.le_refl _) _).drew))
                have HB1 := Lib.hid (show SmS g q5 (j * 2) w6.heap.size GL.seen.length (M2.rc 5) m1 ms (V.alloc (.cells #[.int .i64 ms.t, .slice ms.a ms.n ms.c] 40)).drew from HKS.out _ (((Below.refl _ V).alloc (Nat.le_refl _) _).drew))
                have HUAS := Lib.hid (HKS.out _ HAB.out.bl)
                have HUBS := Lib.hid (HKS.out _ HBA.out.bl)
                refine wpAnyH_two (i := 10) (j := 18) (by kernel_rfl) (wpOp_wp rfl (by rfl) ?_) (wpOp_wp rfl (by rfl) ?_)
                · go_simp
                  refine ⟨HA1.out, ?_⟩
                  refine heldOne 18 (by kernel_rfl) rfl (by rfl) ?_
                  go_simp
                  rw [← HUA.out]
                  refine ⟨HUAS.out, ?_⟩
                  have hab := HAB.out
                  generalize V.heap.size + 1 = n2 at hab ⊢
                  generalize V.heap.size = n1 at hab ⊢
                  exact hway UA _ _ hab
                · go_simp
                  refine ⟨HB1.out, ?_⟩
                  refine heldOne 10 (by kernel_rfl) rfl (by rfl) ?_
                  go_simp
                  rw [← HUB.out]
                  refine ⟨HUBS.out, ?_⟩
                  have hab := HBA.out
                  generalize V.heap.size + 1 = n2 at hab ⊢
                  generalize V.heap.size = n1 at hab ⊢
                  exact hway UB _ _ hab
                intro U n1 n2 hsm
                have HSM := Lib.hid hsm
                clear hsm
                refine heldOne 19 (by kernel_rfl) rfl (by rfl) ?_
                go_simp
                refine (r17Same [m1] [ms] (some ⟨n1, 0, none⟩) (some ⟨n2, 0, none⟩) 1 1 1 1 (by omega) U HSM.out.i1 HSM.out.i2).mono ?_
                rintro e V9 ⟨rfl, hb9⟩
                rw [HSAME.out]
                have HB9 := Lib.hid (HSM.out.bl.trans (hb9.mono HSM.out.bl.size))
                have HL9 := Lib.hid (HLV.out.below HB9.out)
                have HLL9 := Lib.hid (LineAt.below HLLV.out HB9.out)
                have hS9 := HKS.out _ HB9.out
                clear hb9
                refine ⟨hS9, ?_⟩
                refine heldTake 20 143 rfl rfl (by kernel_rfl) (by kernel_rfl) (by kernel_rfl) (fun _ _ _ h => h) hS9 (.inl ⟨by rfl, by intro w' hS; obtain ⟨s1, s2, s3, s4, s5, s6, s7⟩ := hS; go_simp; (try rfl)⟩) ?_
                simp only [List.set_cons_zero, List.set_cons_succ]
                refine heldTake 21 144 rfl rfl (by kernel_rfl) (by kernel_rfl) (by kernel_rfl) (fun _ _ _ h => h) hS9 (.inl ⟨by rfl, by intro w' hS; obtain ⟨s1, s2, s3, s4, s5, s6, s7⟩ := hS; go_simp; (try rfl)⟩) ?_
                simp only [List.set_cons_zero, List.set_cons_succ]
                refine heldTake 22 145 rfl rfl (by kernel_rfl) (by kernel_rfl) (by kernel_rfl) (fun _ _ _ h => h) hS9 (.inl ⟨by rfl, by intro w' hS; obtain ⟨s1, s2, s3, s4, s5, s6, s7⟩ := hS; go_simp; (try rfl)⟩) ?_
                simp only [List.set_cons_zero, List.set_cons_succ]
                refine heldOne 23 (by kernel_rfl) rfl (by rfl) ?_
                refine wp_store_cell 4 (.tmp 145) (.tmp 143) rfl g 8 (.bool true) _ rfl rfl rfl infoBool8 hS9.r (HL9.out.gr.f 8) ?_
                have HR9 := Lib.hid (HL9.out.right HGE.out.2.2.2)
                have HLLR := Lib.hid (LineAt.set (j := 8) (v := .bool true) HLL9.out HL9.out.gr.row)
                obtain ⟨W9, hW9⟩ : ∃ W9, W9 = V9.setCell ⟨g, 8, none⟩ (.bool true) := ⟨_, rfl⟩
                have hc9 : ∀ (b k : Nat), b ≠ g → W9.cell? ⟨b, k, none⟩ = V9.cell? ⟨b, k, none⟩ := fun b k hb => by
                  rw [hW9]
                  exact cell_far9 (Below.heap_setCell _ _ _ b hb)
                have hqg : q5 ≠ g := fun e => by
                  have h9 : M2.own g (.row 5) q5 := ⟨by omega, by rw [HQ5.out]; rfl⟩
                  have h8 := HL9.out.gr.dis .g (.row 5) q5 e h9
                  cases h8
                have hig : w6.heap.size ≠ g := fun e => by
                  have h9 := HLV.out.gr.row
                  rw [← e] at h9
                  exact absurd (kind_eq h9 HRV.out) (by decide)
                rw [← hW9] at HR9 HLLR ⊢
                have hS10 : SmS g q5 (j * 2) w6.heap.size GL.seen.length (M2.rc 5) m1 ms W9 := ⟨HR9.out.gr.lt (x := .g) rfl, by rw [← HGE.out.2.2.2]; exact HR9.out.gr.cr, by
                    have h9 := HR9.out.gr.cl (i := 5) (by omega)
                    have h8 := HL9.out.gr.cl (i := 5) (by omega)
                    exact h9.trans (h8.symm.trans hS9.s5), (hc9 _ _ hqg).trans hS9.x0, (hc9 _ _ hqg).trans hS9.x1, (hc9 _ _ hig).trans hS9.i0, (hc9 _ _ hig).trans hS9.i1⟩
                refine ⟨hS10, wpAnyH_done (by kernel_rfl) ?_ _⟩
                clear hS9 hS10 hc9 hqg hig hW9 hdr
                go_wp2_with fail
                go_roundw
                case rel => exact ⟨j + 1, by go_num, by omega, HR9.out, HLLR.out⟩
                case measure => simp [intOf]; omega
          · have t2 : decide ((j : Int) < (GL.seen.length : Int)) = false := decide_eq_false (by omega)
            have t2n : decide (j < GL.seen.length) = false := decide_eq_false hjl
            go_wp2_with fail
            go_end0
            exact ⟨rfl, M2, by rw [← HT.out, ← HGL.out]; exact HL5.out.gr, HM2.out, HL5.out.bl⟩
end
end Go.Proofs.YtogcnfhmcpkdcaaGreat
