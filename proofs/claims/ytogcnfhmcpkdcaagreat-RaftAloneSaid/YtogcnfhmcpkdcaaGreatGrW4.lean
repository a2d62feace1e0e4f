/-
  Walks of a group: what a replica did is collected, where no letter goes out and nothing jumped (collect).
-/
import Derived.Test.YtogcnfhmcpkdcaaGreatGrW3
namespace Go.Proofs.YtogcnfhmcpkdcaaGreat
open Go.RowKit
set_option linter.unusedVariables false
set_option linter.unusedSimpArgs false

section
variable {w0 w w' w1 : World} {B g c : Nat} {G : PGroup} {M : GMem} {i : Nat}
/-- the group at the head of a drawn region that lays notes -/
structure NtS (g nb n cap : Nat) (W : World) : Prop where
  s : g < W.heap.size
  c2 : W.cell? ⟨g, 2, none⟩ = some (.slice (some ⟨nb, 0, none⟩) n cap)

/-- the notes' row, which is nobody's, grows: the replica stays -/
theorem RTouch.besides {p : Nat} {N N' : RMem} {wa wb wc wd : World} (h1 : Below wa.heap.size wa wb) (h2 : RTouch p N N' wb wc) {o : Option Nat} (h3 : wc.grownBy wd o) (ho : ∀ k, o = some k → wa.heap.size ≤ k) (hN : ∀ k, N'.own p k → N.own p k) : RTouch p N N' wa wd := by
  have hs1 := h1.size
  have hs2 := h2.size
  have hs3 := h3.size
  refine ⟨h3.os.trans (h2.os.trans h1.os), h3.tape.trans (h2.tape.trans h1.tape), h3.output.trans (h2.output.trans h1.output), by omega, fun k hk hno => ?_, fun k hk => .inl (hN k hk)⟩
  exact (h3.block k (by omega) (fun e => by have := ho k e.symm; omega)).trans ((h2.block k (by omega) hno).trans (h1.block k hk))
/-- what is kept of the replica's notes; its news are none -/
def PGroup.noted (G : PGroup) (i : Nat) (R : PRaft) : PGroup := { G with rs := G.rs.set i { R with news := [] }, nt := G.nt.set i ((G.nt.getD i []) ++ R.news) }

/-- what is handed out up to A is seen -/
def PGroup.seenTo (G : PGroup) (i : Nat) (R : PRaft) (A : Nat) : PGroup :=
  { G with rs := G.rs.set i { R with applied := A }, ats := G.ats.set i A, seen := G.seen ++ (List.range (A - G.seen.length)).map (fun (m : Nat) => R.item ((G.seen.length + m + 1 : Nat) : Int)), wh := G.wh ++ List.replicate (A - G.seen.length) G.term }
/-- what a replica did is collected (no letter goes out, nothing jumped) -/
def PGroup.collected (G : PGroup) (i : Nat) (R : PRaft) : PGroup :=
  let G2 := (G.noted i R).seenTo i { R with news := [] } R.commit.toNat
  if R.role = 2 then G2.led1 R.bt i else G2
/-- a row has grown: who turned -/
theorem GrAt.grewFr (h : GrAt w B g c G M) {j : Nat} (hj : j < 8) (hg : w.grownBy w1 (rowV G M j).ownBlock) (k : Nat) (v : Value) : GFr g M (fun x => x = .g ∨ x = .row j) w (w1.setCell ⟨g, k, none⟩ v) :=
  ⟨hg.os, hg.tape, hg.output, by simpa using hg.size, fun b hb hx => by
    have h1 : b ≠ g := fun e => hx .g e (.inl rfl)
    exact (Below.heap_setCell _ _ _ b h1).trans (hg.block b hb (fun e => hx (.row j) ⟨hj, by unfold rowV at e; rw [ownBlock_eq] at e; exact e.symm⟩ (.inr rfl)))⟩
theorem maxBt_ge (l : List PRaft) (t : Int) : t ≤ maxBt l t := by
  induction l generalizing t with
  | nil => exact Int.le_refl _
  | cons x l ih =>
    have h1 := ih (max t x.bt)
    show t ≤ maxBt l (max t x.bt)
    omega
theorem maxBt_mem {l : List PRaft} {t : Int} {R : PRaft} (h : R ∈ l) : R.bt ≤ maxBt l t := by
  induction l generalizing t with
  | nil => cases h
  | cons x l ih =>
    rcases List.mem_cons.1 h with e | e
    · subst e
      have h1 := maxBt_ge l (max t R.bt)
      show R.bt ≤ maxBt l (max t R.bt)
      omega
    · exact ih e
theorem set_self {α : Type} {l : List α} {i : Nat} {x : α} (h : l[i]? = some x) : l.set i x = l := by
  obtain ⟨h8, h7⟩ := List.getElem?_eq_some_iff.1 h
  rw [← h7]; exact List.set_getElem_self h8
theorem seenTo_start {R : PRaft} {A : Nat} (hR : G.rs[i]? = some R) (hA : R.applied = A) (ha : G.ats[i]? = some R.applied) (hs : A ≤ G.seen.length) : G.seenTo i R A = G := by
  unfold PGroup.seenTo
  have e1 : ({ R with applied := (A : Int) } : PRaft) = R := by rw [← hA]
  rw [e1, set_self hR, ← hA, set_self ha, show A - G.seen.length = 0 by omega]
  simp

/-- what the drawn region that lays an item keeps -/
structure BiS (g ib : Nat) (t : Int) (a : Option Addr) (n c : Nat) (W : World) : Prop where
  s : g < W.heap.size
  c0 : W.cell? ⟨ib, 0, none⟩ = some (.int .i64 t)
  c1 : W.cell? ⟨ib, 1, none⟩ = some (.slice a n c)
theorem BiS.of {ib : Nat} {t : Int} {a : Option Addr} {n k : Nat} (hs : g < w.heap.size) (hr : w.heap[ib]? = some (.cells #[.int .i64 t, .slice a n k] 40 (0, 0))) : BiS g ib t a n k w :=
  ⟨hs, by rw [cell_of_row _ _ 0 _ _ _ hr]; rfl, by rw [cell_of_row _ _ 1 _ _ _ hr]; rfl⟩
theorem infoInts9 : (Tryz.prog.info? 63).map (·.size) = some 1 := by kernel_rfl
theorem maxBt_congr {l l' : List PRaft} (h : l.map (·.bt) = l'.map (·.bt)) (t : Int) : maxBt l t = maxBt l' t := by
  induction l generalizing l' t with
  | nil =>
    cases l' with
    | nil => rfl
    | cons y l' => simp at h
  | cons x l ih =>
    cases l' with
    | nil => simp at h
    | cons y l' =>
      simp at h
      show maxBt l (max t x.bt) = maxBt l' (max t y.bt)
      rw [h.1]
      exact ih h.2 _
theorem term_set {R R' : PRaft} (hR : G.rs[i]? = some R) (hb : R'.bt = R.bt) (G' : PGroup) (hG : G'.rs = G.rs.set i R') : G'.term = G.term := by
  unfold PGroup.term
  rw [hG]
  exact maxBt_congr (map_set_same (fun R : PRaft => R.bt) hR hb) 0
/-- one more is handed out: the group behind at[i] -/
def PGroup.oneMore (G : PGroup) (i : Nat) (R : PRaft) (A : Nat) : PGroup :=
  { G.seenTo i R A with rs := (G.seenTo i R A).rs.set i { R with applied := (A : Int) + 1 }, ats := (G.seenTo i R A).ats.set i ((A : Int) + 1) }
theorem oneMore_old {R : PRaft} {A : Nat} (h : A < G.seen.length) : G.oneMore i R A = G.seenTo i R (A + 1) := by
  unfold PGroup.oneMore PGroup.seenTo
  simp only [List.set_set, show A - G.seen.length = 0 by omega, show A + 1 - G.seen.length = 0 by omega]
  congr 1
theorem oneMore_new {R : PRaft} {A : Nat} (h : G.seen.length ≤ A) : { G.oneMore i R A with seen := (G.oneMore i R A).seen ++ [R.item ((A : Int) + 1)], wh := (G.oneMore i R A).wh ++ [G.term] } = G.seenTo i R (A + 1) := by
  unfold PGroup.oneMore PGroup.seenTo
  have e : A + 1 - G.seen.length = (A - G.seen.length) + 1 := by omega
  simp only [List.set_set, e, List.range_succ, List.map_append, List.replicate_succ', List.append_assoc, List.map_cons, List.map_nil]
  have e2 : G.seen.length + (A - G.seen.length) + 1 = A + 1 := by omega
  rw [e2]
  congr 1

set_option maxRecDepth 100000 in
set_option maxHeartbeats 2000000 in
theorem l18collect0 {N : RMem} {p : Nat} {R : PRaft} (h : GrAt w B g i G M) (hR : G.rs[i]? = some R) (hq : M.ps[i]? = some (p, N)) (hok : R.Ok) (hr : G.right = true) (hj : R.jumped = false) (hout : R.out = [])
    (hnl : (G.nt.getD i []).length ≤ 10000000) (hnw : R.news.length ≤ 10000000) (hil : i < G.nt.length)
    (hat : G.ats[i]? = some R.applied) (hap : R.applied ≤ G.seen.length) (hsl : G.seen.length ≤ 10000) (hcm : R.commit ≤ 10000) (hwl : G.wh.length = G.seen.length) (hag : ∀ (k : Nat) (x : PItem), G.seen[k]? = some x → R.applied ≤ k → (k : Int) < R.commit → R.item ((k + 1 : Nat) : Int) = x)
    (hll : G.led.length ≤ 10000) (hps : G.rs.length ≤ 7) (hled : R.role = 2 → ∀ x ∈ G.led, x.1 = R.bt → x.2 = i) (hseen : R.role = 2 → ∀ (k : Nat) (x : PItem) (t : Int), G.seen[k]? = some x → G.wh[k]? = some t → t < R.bt → R.line.base < (k : Int) + 1 → (k : Int) + 1 ≤ R.line.last ∧ R.item ((k : Int) + 1) = x) :
    Calls Tryz.prog 27 #[.pointer (some ⟨g, 0, none⟩), .int .i64 i] w fun e w' => e = .returned (.tuple #[]) ∧ ∃ M' N', GrAt w' B g i (G.collected i R) M' ∧ M'.ps[i]? = some (p, N') ∧ N'.ps = [] ∧ Below B w w' := by
  obtain ⟨iB, jB, jB0, jB1, jB2⟩ := info_parts infoBytes9
  obtain ⟨iT, jT, jT0, jT1, jT2⟩ := info_parts infoItem3
  obtain ⟨iI, jI, jI0, jI1, jI2⟩ := info_parts infoInt
  obtain ⟨b0, hb1, hb2, hb3⟩ := h.ptr hq
  have hi0 : (0 : Int) ≤ (i : Int) := by omega
  have hin : i < M.ps.length := (List.getElem?_eq_some_iff.1 hq).1
  have hi1 : (i : Int) < (M.ps.length : Int) := by omega
  have c0 : w.cell? ⟨g, 0, none⟩ = some (.slice (some ⟨b0, 0, none⟩) M.ps.length (M.rc 0)) := by rw [← hb1]; exact h.cl (i := 0) (by omega)
  have htl : M.ts.length = G.nt.length := by rw [← h.ct.tq]; simp
  obtain ⟨ti, hti⟩ : ∃ ti, M.ts[i]? = some ti := ⟨_, List.getElem?_eq_getElem (by omega)⟩
  obtain ⟨b2, hb21, hb22, _, hb24⟩ := h.at_ (i := 2) (by omega) (j := i) (by show i < M.ts.length * 1; omega)
  have hi2 : (i : Int) < (M.ts.length : Int) := by omega
  have HRF := Lib.hid (h.rf i R (p, N) hR hq)
  have H := Lib.hid h
  have HR := Lib.hid hR
  have HQ := Lib.hid hq
  have HRT := Lib.hid hr
  have HOUT := Lib.hid hout
  have HJ := Lib.hid hj
  have HTI := Lib.hid hti
  have HAT := Lib.hid hat
  have HAG := Lib.hid hag
  have HWL := Lib.hid hwl
  have HLED := Lib.hid hled
  have HSEEN := Lib.hid hseen
  have hap0 := hok.ap0
  have hap1 := hok.ap1
  have hb0 := hok.line.b0
  obtain ⟨a0, ha0⟩ : ∃ a0 : Nat, R.applied = a0 := ⟨R.applied.toNat, by omega⟩
  obtain ⟨C, hC⟩ : ∃ C : Nat, R.commit = C := ⟨R.commit.toNat, by omega⟩
  have HA0 := Lib.hid ha0
  have HC := Lib.hid hC
  have haC : a0 ≤ C := by omega
  have haS : a0 ≤ G.seen.length := by omega
  have hC1 : C ≤ 10000 := by omega
  clear hled hseen hat hag hwl hap0 hap1 hb0 ha0 hC hap hcm
  have HB21 := Lib.hid hb21
  have k2 : w.cell? ⟨b2, i, none⟩ = some ti.cell := by
    rw [hb22]; show (M.ts.map MNts.cell)[i]? = _; rw [List.getElem?_map, hti]; rfl
  have K2 := Lib.hid k2
  clear h hR hq hr hb1 hout hj hti hb21 hb22 htl k2
  go_enter Tryz.func27, Tryz.ntmps27
  go_wp2_with fail
  refine (raftJump HRF.out).mono ?_
  intro e w2 hj2
  unfold JumpTo at hj2
  rw [show R.jump = (R, none) by unfold PRaft.jump; rw [if_neg (by rw [HJ.out]; decide)]] at hj2
  obtain ⟨rfl, rfl⟩ := hj2
  clear c0 hb2
  go_wp2_with fail
  refine wp_region_any (by kernel_rfl) ?_
  refine wpAny_of_held (S := NtS g b2 M.ts.length (M.rc 2)) _ _ _ _ ?_
  have hdr : Below w2.heap.size w2 w2.drew := (Below.refl _ _).drew
  have H9 := Lib.hid (H.out.below hdr)
  have hS0 : NtS g b2 M.ts.length (M.rc 2) w2.drew := ⟨H9.out.lt (x := .g) rfl, by rw [← HB21.out]; exact H9.out.cl (i := 2) (by omega)⟩
  refine heldTake 0 72 rfl rfl (by kernel_rfl) (by kernel_rfl) (by kernel_rfl) (fun _ _ _ h => h) hS0 (.inl ⟨by rfl, by intro w' hS; obtain ⟨s1, s2⟩ := hS; go_simp; (try rfl)⟩) ?_
  simp only [List.set_cons_zero, List.set_cons_succ]
  refine heldTake 4 76 rfl rfl (by kernel_rfl) (by kernel_rfl) (by kernel_rfl) (fun _ _ _ h => h) hS0 (.inl ⟨by rfl, by intro w' hS; obtain ⟨s1, s2⟩ := hS; go_simp; (try rfl)⟩) ?_
  simp only [List.set_cons_zero, List.set_cons_succ]
  refine heldTake 6 78 rfl rfl (by kernel_rfl) (by kernel_rfl) (by kernel_rfl) (fun _ _ _ h => h) hS0 (.inl ⟨by rfl, by intro w' hS; obtain ⟨s1, s2⟩ := hS; go_simp; (try rfl)⟩) ?_
  simp only [List.set_cons_zero, List.set_cons_succ]
  refine heldTake 10 82 rfl rfl (by kernel_rfl) (by kernel_rfl) (by kernel_rfl) (fun _ _ _ h => h) hS0 (.inl ⟨by rfl, by intro w' hS; obtain ⟨s1, s2⟩ := hS; go_simp; (try rfl)⟩) ?_
  simp only [List.set_cons_zero, List.set_cons_succ]
  refine heldTake 14 86 rfl rfl (by kernel_rfl) (by kernel_rfl) (by kernel_rfl) (fun _ _ _ h => h) hS0 (.inl ⟨by rfl, by intro w' hS; obtain ⟨s1, s2⟩ := hS; go_simp; (try rfl)⟩) ?_
  simp only [List.set_cons_zero, List.set_cons_succ]
  refine heldTake 1 73 rfl rfl (by kernel_rfl) (by kernel_rfl) (by kernel_rfl) (fun _ _ _ h => h) hS0 (.inl ⟨by rfl, by intro w' hS; obtain ⟨s1, s2⟩ := hS; go_simp; (try rfl)⟩) ?_
  simp only [List.set_cons_zero, List.set_cons_succ]
  refine heldTake 7 79 rfl rfl (by kernel_rfl) (by kernel_rfl) (by kernel_rfl) (fun _ _ _ h => h) hS0 (.inl ⟨by rfl, by intro w' hS; obtain ⟨s1, s2⟩ := hS; go_simp; (try rfl)⟩) ?_
  simp only [List.set_cons_zero, List.set_cons_succ]
  refine heldTake 2 74 rfl rfl (by kernel_rfl) (by kernel_rfl) (by kernel_rfl) (fun _ _ _ h => h) hS0 (.inl ⟨by rfl, by intro w' hS; obtain ⟨s1, s2⟩ := hS; go_simp; (try rfl)⟩) ?_
  simp only [List.set_cons_zero, List.set_cons_succ]
  refine heldTake 8 80 rfl rfl (by kernel_rfl) (by kernel_rfl) (by kernel_rfl) (fun _ _ _ h => h) hS0 (.inl ⟨by rfl, by intro w' hS; obtain ⟨s1, s2⟩ := hS; go_simp; (try rfl)⟩) ?_
  simp only [List.set_cons_zero, List.set_cons_succ]
  refine heldTake 3 75 rfl rfl (by kernel_rfl) (by kernel_rfl) (by kernel_rfl) (fun _ _ _ h => h) hS0 (.inl ⟨by rfl, by intro w' hS; obtain ⟨s1, s2⟩ := hS; go_simp; (try rfl)⟩) ?_
  simp only [List.set_cons_zero, List.set_cons_succ]
  refine heldTake 9 81 rfl rfl (by kernel_rfl) (by kernel_rfl) (by kernel_rfl) (fun _ _ _ h => h) hS0 (.inl ⟨by rfl, by intro w' hS; obtain ⟨s1, s2⟩ := hS; go_simp; (try rfl)⟩) ?_
  simp only [List.set_cons_zero, List.set_cons_succ]
  refine heldTake 11 83 rfl rfl (by kernel_rfl) (by kernel_rfl) (by kernel_rfl) (fun _ _ _ h => h) hS0 (.inl ⟨by rfl, by intro w' hS; obtain ⟨s1, s2⟩ := hS; go_simp; (try rfl)⟩) ?_
  simp only [List.set_cons_zero, List.set_cons_succ]
  have HS0 := Lib.hid hS0
  clear hS0
  obtain ⟨U, hU⟩ : ∃ U, U = (w2.alloc (.cells #[] 27)).drew := ⟨_, rfl⟩
  have hbU : Below w2.heap.size w2 U := by rw [hU]; exact ((Below.refl _ _).alloc (Nat.le_refl _) _).drew
  have hsU : U.heap.size = w2.heap.size + 1 := by rw [hU]; simp
  have HBU := Lib.hid hbU
  have HLU := Lib.hid (H.out.below hbU)
  have hmade : U.ownsRow w2.heap.size 27 1 (.slice (some ⟨w2.heap.size, 0, none⟩) 0 0) 0 [] := by
    have h9 := own_below' (ownsRow_nilT w2 w2.heap.size 1 (Nat.le_refl _) 27) (show Below (w2.alloc (.cells #[] 27)).heap.size (w2.alloc (.cells #[] 27)) U by rw [hU]; exact (Below.refl _ _).drew)
    exact h9
  have HMADE := Lib.hid hmade
  have hSU : NtS g b2 M.ts.length (M.rc 2) U := ⟨HLU.out.lt (x := .g) rfl, by rw [← HB21.out]; exact HLU.out.cl (i := 2) (by omega)⟩
  have kU : U.cell? ⟨b2, i, none⟩ = some (.slice ti.a ti.ns.length ti.c) := (hbU.cell (p := ⟨b2, i, none⟩) (by exact hb24)).trans K2.out
  have KU := Lib.hid kU
  have HSU := Lib.hid hSU
  have HU := Lib.hid hU
  clear hU hbU hmade hSU kU
  apply wayU (fun U' => U' = U)
  intro hway
  refine wpAnyH_two (i := 5) (j := 12) (by kernel_rfl) (wpOp_wp rfl (by rfl) ?_) (wpOp_wp rfl (by rfl) ?_)
  · go_simp
    rw [← HU.out]
    refine ⟨HSU.out, ?_⟩
    refine heldOne 12 (by kernel_rfl) rfl (by rfl) ?_
    have k9 := KU.out
    go_simp
    clear k9
    refine ⟨HSU.out, ?_⟩
    exact hway U rfl
  · have k9 : w2.cell? ⟨b2, i, none⟩ = some (.slice ti.a ti.ns.length ti.c) := K2.out
    go_simp
    clear k9
    refine ⟨HS0.out, ?_⟩
    refine heldOne 5 (by kernel_rfl) rfl (by rfl) ?_
    go_simp
    rw [← HU.out]
    refine ⟨HSU.out, ?_⟩
    exact hway U rfl
  rintro U' rfl
  have HTN := Lib.hid (show ti.ns.map MNote.b = G.nt.getD i [] by
    have h9 : (M.ts.map MNts.p)[i]? = some (ti.ns.map MNote.b) := by rw [List.getElem?_map, HTI.out]; rfl
    rw [H.out.ct.tq] at h9
    rw [List.getD_eq_getElem?_getD, h9]; rfl)
  have hn1 : ti.ns.length ≤ 10000000 := by rw [← HTN.out] at hnl; simpa using hnl
  have hn2 : N.ns.length ≤ 10000000 := by rw [← HRF.out.nq] at hnw; simpa using hnw
  have hSL : SlAt U' U'.heap.size 1 ti.a ti.ns.length ti.c (ti.ns.map MNote.cell) := by
    obtain ⟨a9, c9, e9, h9⟩ := SlAt.ofOwns (HLU.out.ct.tr ti (List.mem_of_getElem? HTI.out))
    injection e9 with e1 _ e3
    subst e1 e3
    exact h9
  refine heldOne 13 (by kernel_rfl) rfl (by rfl) ?_
  refine wp_append_sl U' (.tmp 77) (.tmp 84) 29 rfl w2.heap.size 27 iB (.slice none 0 0) 1 24 Tryz.underlying29 jB jB0 jB1 jB2 rfl (by decide) (.slice (some ⟨w2.heap.size, 0, none⟩) 0 0) 0 [] rfl HMADE.out U'.heap.size ti.a ti.ns.length ti.c (ti.ns.map MNote.cell) rfl hSL (fun u hu => by rw [List.mem_map] at hu; obtain ⟨y, -, rfl⟩ := hu; rfl) (by unfold maxLen; omega) (by omega) (by omega) ?_
  intro a13 c13 W13 o13 g13 hat13
  have hs13 := g13.size
  have hb13 : Below w2.heap.size w2 W13 := by
    refine HBU.out.trans ⟨g13.os, g13.tape, g13.output, g13.size, fun k hk => g13.block k (by omega) (fun e => ?_)⟩
    have e : some w2.heap.size = some k := e.symm
    injection e with e; omega
  have H13 := Lib.hid (H.out.below hb13)
  have HRF13 := Lib.hid (HRF.out.below hb13)
  have HB13 := Lib.hid hb13
  simp only [Nat.zero_add, List.nil_append] at o13
  have HO13 := Lib.hid o13
  have hS13 : NtS g b2 M.ts.length (M.rc 2) W13 := ⟨H13.out.lt (x := .g) rfl, by rw [← HB21.out]; exact H13.out.cl (i := 2) (by omega)⟩
  clear o13 g13 hat13 hSL hb13
  refine ⟨hS13, ?_⟩
  clear hS13
  refine heldOne 15 (by kernel_rfl) rfl (by rfl) ?_
  go_simp
  refine (raftNews HRF13.out).mono ?_
  rintro e W14 ⟨rfl, hw14⟩
  obtain ⟨hr14, ht14⟩ := HRF13.out.clearNews
  rw [← hw14] at hr14 ht14
  have hs14 := ht14.size
  have hpl := HRF.out.lt
  have hown14 : W14.ownsRow w2.heap.size 27 1 (.slice a13 ti.ns.length c13) ti.ns.length (ti.ns.map MNote.cell) := by
    refine own_mv9 HO13.out fun k hk => ?_
    rw [hw14]
    refine Below.heap_setCell _ _ _ k (fun e => ?_)
    have h9 := (own_lt HO13.out hk).1
    have e : k = p := e
    omega
  have hnw14 : SlAt W14 W14.heap.size 1 N.na N.ns.length N.nc (N.ns.map MNote.cell) := by
    have h9 : W14.ownsRow 0 27 1 (.slice N.na N.ns.length N.nc) N.ns.length (N.ns.map MNote.cell) := by
      rw [hw14]
      exact own_mv9 HRF13.out.nw fun k hk => Below.heap_setCell _ _ _ k (fun e9 => by
        rw [ownBlock_eq, e9] at hk
        exact HRF13.out.apart.2.2.1 hk)
    obtain ⟨a9, c9, e9, h9⟩ := SlAt.ofOwns h9
    injection e9 with e1 _ e3
    subst e1 e3
    exact h9
  have hS14 : NtS g b2 M.ts.length (M.rc 2) W14 := by
    have hg14 := H13.out.putRaft HR.out HQ.out hr14 ht14
    refine ⟨hg14.lt (x := .g) rfl, ?_⟩
    have h9 := hg14.cl (i := 2) (by omega)
    rw [← HB21.out]; exact h9
  have HR14 := Lib.hid hr14
  have HT14 := Lib.hid ht14
  have HO14 := Lib.hid hown14
  have HNW14 := Lib.hid hnw14
  clear hr14 ht14 hown14 hnw14 hw14
  refine ⟨hS14, ?_⟩
  clear hS14
  refine heldOne 16 (by kernel_rfl) rfl (by rfl) ?_
  refine wp_append_sl W14 (.tmp 85) (.tmp 87) 29 rfl w2.heap.size 27 iB (.slice none 0 0) 1 24 Tryz.underlying29 jB jB0 jB1 jB2 rfl (by decide) (.slice a13 ti.ns.length c13) ti.ns.length (ti.ns.map MNote.cell) rfl HO14.out W14.heap.size N.na N.ns.length N.nc (N.ns.map MNote.cell) rfl HNW14.out (fun u hu => by rw [List.mem_map] at hu; obtain ⟨y, -, rfl⟩ := hu; rfl) (by unfold maxLen; omega) (by omega) (by omega) ?_
  intro a16 c16 W16 o16 g16 hat16
  have hs16 := g16.size
  have hlo : ∀ k, (Value.slice a13 ti.ns.length c13).ownBlock = some k → w2.heap.size ≤ k := fun k hk => (own_lt HO14.out hk).1
  have hsub : ∀ k, ({ N with na := none, nc := 0, ns := [] } : RMem).own p k → N.own p k := fun k hk => by
    rcases hk with e | e | e | e | e
    · exact .inl e
    · exact .inr (.inl e)
    · exact .inr (.inr (.inl e))
    · cases e
    · exact .inr (.inr (.inr (.inr e)))
  have hNP : N.ps = [] := by
    have h9 := HRF.out.po.q
    rw [HOUT.out] at h9
    exact List.map_eq_nil_iff.1 h9
  have hr16 := HR14.out.grown2 g16 (fun k hk ho => by
    have h8 := hlo k hk
    have h9 := HRF.out.notNew h8
    exact h9 (hsub k ho)) (by show ∀ m ∈ N.ps, _; rw [hNP]; simp) (fun k cs fr hk hc => by
      rw [ownBlock_eq] at hk
      obtain ⟨cur, h9⟩ := own_kind HO14.out hk
      exact absurd (kind_eq h9 hc) (by decide))
  have ht16 := RTouch.besides HB13.out HT14.out g16 hlo hsub
  have hg16 := H.out.putRaft HR.out HQ.out hr16 ht16
  have hfree : ∀ k, a16.map (·.block) = some k → B ≤ k ∧ ∀ y, ¬ ({ M with ps := M.ps.set i (p, { N with na := none, nc := 0, ns := [] }) } : GMem).own g y k := fun k hk => by
    have hk' : w2.heap.size ≤ k := (own_lt o16 (by rw [ownBlock_eq]; exact hk)).1
    have h9 := H.out.free hk'
    refine ⟨h9.1, fun y hy => ?_⟩
    cases y with
    | g => exact h9.2 .g hy
    | row j => exact h9.2 (.row j) hy
    | nts j => exact h9.2 (.nts j) hy
    | raft j =>
      obtain ⟨q, h1, h2⟩ : ∃ q : Nat × RMem, (M.ps.set i (p, { N with na := none, nc := 0, ns := [] }))[j]? = some q ∧ q.2.own q.1 k := hy
      rw [set_get hin] at h1
      by_cases e : j = i
      · rw [if_pos e] at h1; injection h1 with h1; subst h1
        exact h9.2 (.raft i) ⟨_, HQ.out, hsub k h2⟩
      · rw [if_neg e] at h1
        exact h9.2 (.raft j) ⟨q, h1, h2⟩
  have hS16 : NtS g b2 M.ts.length (M.rc 2) W16 := by
    refine ⟨hg16.lt (x := .g) rfl, ?_⟩
    have h9 := hg16.cl (i := 2) (by omega)
    rw [← HB21.out]; exact h9
  refine ⟨hS16, ?_⟩
  refine heldTake 17 89 rfl rfl (by kernel_rfl) (by kernel_rfl) (by kernel_rfl) (fun _ _ _ h => h) hS16 (.inl ⟨by rfl, by intro w' hS; obtain ⟨s1, s2⟩ := hS; go_simp; (try rfl)⟩) ?_
  simp only [List.set_cons_zero, List.set_cons_succ]
  refine heldOne 18 (by kernel_rfl) rfl (by rfl) ?_
  obtain ⟨q2, hq21, hq22, hq23, -⟩ := hg16.at_ (i := 2) (by omega) (j := i) (by show i < M.ts.length * 1; omega)
  have eq2 : q2 = b2 := by
    have h9 : M.ra 2 = some ⟨q2, 0, none⟩ := hq21
    rw [HB21.out] at h9
    injection h9 with h9; injection h9 with h9; exact h9.symm
  subst eq2
  have p2 : W16.cell? ⟨q2, i, none⟩ = some ti.cell := by
    rw [hq22]; show (M.ts.map MNts.cell)[i]? = _; rw [List.getElem?_map, HTI.out]; rfl
  refine wp_store_cell 29 (.tmp 89) (.tmp 88) rfl q2 i (.slice a16 (ti.ns.length + N.ns.length) c16) _ rfl rfl rfl infoBytesS p2 hq23 ?_
  have hel : (ti.ns ++ N.ns).length = ti.ns.length + N.ns.length := by simp
  have hnt := hg16.setNotes (i := i) (b := q2) (cap := M.rc 2) (by show i < M.ts.length; omega) (by show Value.slice (M.ra 2) M.ts.length (M.rc 2) = _; rw [HB21.out]) ⟨a16, c16, ti.ns ++ N.ns⟩ (by
      show W16.ownsRow 0 27 1 (.slice a16 (ti.ns ++ N.ns).length c16) (ti.ns ++ N.ns).length ((ti.ns ++ N.ns).map MNote.cell)
      rw [hel, List.map_append]
      exact own_mono0 o16) (fun m hm => by
      rcases List.mem_append.1 hm with h9 | h9
      · exact hg16.ct.tb ti (List.mem_of_getElem? HTI.out) m h9
      · exact HRF.out.keeps ht16 (HRF.out.nb m h9)) hfree
  have hcell : MNts.cell ⟨a16, c16, ti.ns ++ N.ns⟩ = .slice a16 (ti.ns.length + N.ns.length) c16 := by show Value.slice a16 (ti.ns ++ N.ns).length c16 = _; rw [hel]
  have hpn : MNts.p ⟨a16, c16, ti.ns ++ N.ns⟩ = G.nt.getD i [] ++ R.news := by show (ti.ns ++ N.ns).map MNote.b = _; rw [List.map_append, HTN.out, HRF.out.nq]
  rw [hcell, hpn] at hnt
  have hqB : B ≤ q2 := H.out.inn (.row 2) q2 ⟨by omega, by rw [HB21.out]; rfl⟩
  obtain ⟨W17, hW17⟩ : ∃ W17, W17 = W16.setCell ⟨q2, i, none⟩ (.slice a16 (ti.ns.length + N.ns.length) c16) := ⟨_, rfl⟩
  have hb17 : Below B w2 W17 := (ht16.below (fun k hk => H.out.inn (.raft i) k ⟨_, HQ.out, hk⟩) H.out.bs).trans (by rw [hW17]; exact below_set hqB _)
  rw [← hW17] at hnt ⊢
  have hS17 : NtS g q2 M.ts.length (M.rc 2) W17 := by
    refine ⟨hnt.lt (x := .g) rfl, ?_⟩
    have h9 := hnt.cl (i := 2) (by omega)
    rw [← HB21.out]
    exact h9.trans (by show some (Value.slice (M.ra 2) (M.ts.set i ⟨a16, c16, ti.ns ++ N.ns⟩).length (M.rc 2)) = _; simp)
  have HG17 := Lib.hid hnt
  have HB17 := Lib.hid hb17
  refine ⟨hS17, wpAnyH_done (by kernel_rfl) ?_ _⟩
  clear hS16 hS17 p2 hq21 hq22 hq23 hnt hb17 hW17 hcell hpn hel hfree hg16 ht16 hr16 hsub hlo o16 g16 hat16 hdr
  obtain ⟨G1, hG1⟩ : ∃ G1 : PGroup, G1 = G.noted i R := ⟨_, rfl⟩
  obtain ⟨N1, hN1⟩ : ∃ N1 : RMem, N1 = { N with na := none, nc := 0, ns := [] } := ⟨_, rfl⟩
  obtain ⟨M1, hM1⟩ : ∃ M1 : GMem, M1 = { M with ps := M.ps.set i (p, N1), ts := M.ts.set i ⟨a16, c16, ti.ns ++ N.ns⟩ } := ⟨_, rfl⟩
  have HG1 := Lib.hid (show GrAt W17 B g i G1 M1 by rw [hG1, hM1, hN1]; exact HG17.out)
  have hlr : i < G.rs.length := (List.getElem?_eq_some_iff.1 HR.out).1
  have HR1 := Lib.hid (show G1.rs[i]? = some { R with news := [] } by rw [hG1]; show (G.rs.set i _)[i]? = _; rw [set_get hlr, if_pos rfl])
  have HQ1 := Lib.hid (show M1.ps[i]? = some (p, N1) by rw [hM1]; show (M.ps.set i _)[i]? = _; rw [set_get hin, if_pos rfl])
  have HRF1 := Lib.hid (HG1.out.rf i _ (p, N1) HR1.out HQ1.out)
  have HON := Lib.hid (show N1.on = 0 by rw [hN1]; show N.on = 0; rw [HRF.out.oq, HOUT.out]; rfl)
  have HGQ1 := Lib.hid hG1
  have HMQ1 := Lib.hid hM1
  have HNQ1 := Lib.hid hN1
  clear hG1 hN1 hM1 HG17 HR14 HT14 HO14 HNW14 H13 HRF13 HB13 HO13 HLU HMADE KU HSU HU HS0 H9 hNP hs16 hs14 hs13
  go_wp2_with fail
  refine (raftOut HRF1.out).mono ?_
  rintro e W18 ⟨rfl, hw18⟩
  obtain ⟨hr18, ht18⟩ := HRF1.out.clearOut
  rw [← hw18] at hr18 ht18
  have hg18 := HG1.out.putRaft HR1.out HQ1.out hr18 ht18
  have HB18 := Lib.hid (show Below B w2 W18 from HB17.out.trans (by rw [hw18]; exact below_set (HG1.out.inn (.raft i) p ⟨_, HQ1.out, .inl rfl⟩) _))
  obtain ⟨N2, hN2⟩ : ∃ N2 : RMem, N2 = { N1 with oa := none, on := 0, oc := 0, ocs := [], ps := [] } := ⟨_, rfl⟩
  obtain ⟨M2, hM2⟩ : ∃ M2 : GMem, M2 = { M1 with ps := M1.ps.set i (p, N2) } := ⟨_, rfl⟩
  have HG2 := Lib.hid (show GrAt W18 B g i G1 M2 by
    rw [← hN2, ← hM2] at hg18
    have e : ({ G1 with rs := G1.rs.set i { ({ R with news := [] } : PRaft) with out := [] } } : PGroup) = G1 := by
      have e2 : ({ ({ R with news := [] } : PRaft) with out := [] } : PRaft) = { R with news := [] } := by rw [← HOUT.out]
      have h9 := HR1.out
      obtain ⟨h8, h7⟩ := List.getElem?_eq_some_iff.1 h9
      have e3 : G1.rs.set i { ({ R with news := [] } : PRaft) with out := [] } = G1.rs := by rw [e2, ← h7]; exact List.set_getElem_self h8
      rw [e3]
    rw [e] at hg18
    exact hg18)
  have HQ2 := Lib.hid (show M2.ps[i]? = some (p, N2) by rw [hM2]; show (M1.ps.set i _)[i]? = _; rw [set_get (List.getElem?_eq_some_iff.1 HQ1.out).1, if_pos rfl])
  have HNE := Lib.hid (show N2.ps = [] by rw [hN2])
  rw [HON.out]
  clear hr18 ht18 hg18 hw18 hM2 hN2
  go_wp2_with fail
  go_loopw [8] (fun iv wr => iv = .int .i64 0 ∧ wr = W18) (fun _ _ => 0)
  case atStart => exact ⟨rfl, rfl⟩
  case round =>
    obtain ⟨rfl, rfl⟩ := hrel
    obtain ⟨R1, hR1⟩ : ∃ R1 : PRaft, R1 = { R with news := [] } := ⟨_, rfl⟩
    have HRQ1 := Lib.hid hR1
    rw [← hR1] at HR1
    have HOK1 := Lib.hid (show R1.Ok by rw [hR1]; exact hok.nws [])
    have HF1 := Lib.hid (show G1.seen = G.seen ∧ G1.wh = G.wh ∧ G1.ats = G.ats ∧ R1.applied = a0 ∧ R1.commit = C ∧ (∀ j, R1.item j = R.item j) ∧ G1.right = true by
      rw [HGQ1.out, hR1]; exact ⟨rfl, rfl, rfl, HA0.out, HC.out, fun j => rfl, HRT.out⟩)
    have HG3 := Lib.hid (show GrAt wr B g i (G1.seenTo i R1 a0) M2 by
      rw [seenTo_start HR1.out HF1.out.2.2.2.1 (by rw [HF1.out.2.2.1, HF1.out.2.2.2.1, ← HA0.out]; exact HAT.out) (by rw [HF1.out.1]; exact haS)]
      exact HG2.out)
    clear hR1
    go_wp2_with fail
    obtain ⟨wo, hwo⟩ : ∃ wo : World, wo = w2 := ⟨_, rfl⟩
    go_loopg [] (C - a0) (fun gk wx => ∃ (A : Nat) (M' : GMem) (N' : RMem), A + gk = C ∧ a0 ≤ A ∧ GrAt wx B g i (G1.seenTo i R1 A) M' ∧ M'.ps[i]? = some (p, N') ∧ N'.ps = [] ∧ Below B wo wx)
    case atStart => exact ⟨a0, M2, N2, by omega, by omega, HG3.out, HQ2.out, HNE.out, by rw [hwo]; exact HB18.out⟩
    case round =>
      obtain ⟨A, M', N', hgk, hA, hgx, hqx, hnx, hbx⟩ := hrel
      have HGX := Lib.hid hgx
      have HQX := Lib.hid hqx
      have HNX := Lib.hid hnx
      have HBX := Lib.hid hbx
      have HGK := Lib.hid hgk
      clear hgx hqx hnx hbx
      subst hwo
      obtain ⟨R2, hR2⟩ : ∃ R2 : PRaft, R2 = { R1 with applied := (A : Int) } := ⟨_, rfl⟩
      have hlr1 : i < G1.rs.length := (List.getElem?_eq_some_iff.1 HR1.out).1
      have HR2 := Lib.hid (show (G1.seenTo i R1 A).rs[i]? = some R2 by rw [hR2]; show (G1.rs.set i _)[i]? = _; rw [set_get hlr1, if_pos rfl])
      have HRFX := Lib.hid (HGX.out.rf i R2 (p, N') HR2.out HQX.out)
      have HF2 := Lib.hid (show R2.line = R1.line ∧ R2.applied = A ∧ R2.commit = C ∧ R2.role = R.role ∧ R2.bt = R.bt ∧ (∀ j, R2.item j = R.item j) ∧ R2.line = R.line by
        rw [hR2, HRQ1.out]; exact ⟨rfl, rfl, by rw [HC.out], rfl, rfl, fun j => rfl, rfl⟩)
      have hap0 := HOK1.out.ap0
      have hcm0 := HOK1.out.cm
      have HNX9 := Lib.hid (raftNext p R2 N' (by rw [HF2.out.1]; exact HOK1.out.line) (by rw [HF2.out.1, HF2.out.2.1]; rw [HF1.out.2.2.2.1] at hap0; omega) (by rw [HF2.out.2.1, HF2.out.2.2.1]; omega) (by rw [HF2.out.1, HF2.out.2.2.1]; rw [HF1.out.2.2.2.2.1] at hcm0; exact hcm0) _ HRFX.out)
      have HRQ2 := Lib.hid hR2
      clear hR2 hap0 hcm0
      by_cases hAC : A = C
      · have hn : R2.next = (R2, none) := by unfold PRaft.next; rw [if_pos (by rw [HF2.out.2.1, HF2.out.2.2.1]; omega)]
        have HN := Lib.hid hn
        clear hn
        subst hAC
        go_wp2_with fail
        refine HNX9.out.mono ?_
        intro e w5 h5
        unfold NextTo at h5
        rw [HN.out] at h5
        obtain ⟨rfl, M5, hr5, ht5⟩ := h5
        have hg5 := HGX.out.putRaft HR2.out HQX.out hr5 ht5
        obtain ⟨M6, hM6⟩ : ∃ M6 : GMem, M6 = { M' with ps := M'.ps.set i (p, M5) } := ⟨_, rfl⟩
        have HG6 := Lib.hid (show GrAt w5 B g i (G1.seenTo i R1 A) M6 by
          rw [← hM6] at hg5
          have e : ({ G1.seenTo i R1 A with rs := (G1.seenTo i R1 A).rs.set i R2 } : PGroup) = G1.seenTo i R1 A := by rw [set_self HR2.out]
          rw [e] at hg5
          exact hg5)
        have HQ6 := Lib.hid (show M6.ps[i]? = some (p, M5) by rw [hM6]; show (M'.ps.set i _)[i]? = _; rw [set_get (List.getElem?_eq_some_iff.1 HQX.out).1, if_pos rfl])
        have HN6 := Lib.hid (show M5.ps = [] by
          have h9 := hr5.po.q
          have h8 : R2.out = [] := by rw [HRQ2.out, HRQ1.out]; exact HOUT.out
          rw [h8] at h9
          exact List.map_eq_nil_iff.1 h9)
        have HB6 := Lib.hid (HBX.out.trans (ht5.below (fun k hk => HGX.out.inn (.raft i) k ⟨_, HQX.out, hk⟩) HGX.out.bs))
        have hro := HF2.out.2.2.2.1
        have HRO := Lib.hid hro
        clear hr5 ht5 hg5 hM6 hro
        obtain ⟨W6, hW6⟩ : ∃ W6, W6 = w5.alloc (.cells #[.int .i64 0, .slice none 0 0] 40) := ⟨_, rfl⟩
        have hb6 : Below w5.heap.size w5 W6 := by rw [hW6]; exact (Below.refl _ _).alloc (Nat.le_refl _) _
        have HG7 := Lib.hid (HG6.out.below hb6)
        have HB7 := Lib.hid (HB6.out.trans (hb6.mono HG6.out.bs))
        have HRF7 := Lib.hid (HG7.out.rf i R2 (p, M5) HR2.out HQ6.out)
        have HW6 := Lib.hid hW6
        clear hb6 hW6
        go_wp2_with fail
        rw [← HW6.out]
        refine (raftRole HRF7.out).mono ?_
        rintro e w8 ⟨rfl, rfl⟩
        rw [HRO.out]
        have HEQ := Lib.hid (show (G1.seenTo i R1 A) = (G.noted i R).seenTo i { R with news := [] } R.commit.toNat by
          rw [HGQ1.out, HRQ1.out, HC.out]; rfl)
        by_cases hrl : R.role = 2
        · have tr : (R.role == 2) = true := by simpa using hrl
          have HCO := Lib.hid (show G.collected i R = (G1.seenTo i R1 A).led1 R2.bt i by
            unfold PGroup.collected; rw [if_pos hrl, ← HEQ.out, HF2.out.2.2.2.2.1])
          have hap9 := HOK1.out.ap0
          have hapc := HOK1.out.ap1
          have HOK2 := Lib.hid (show R2.Ok by
            have h9 := HOK1.out
            rw [HRQ2.out]
            exact { h9 with ap0 := by have := HF1.out.2.2.2.1; show R1.line.base ≤ (A : Int); omega, ap1 := by have := HF1.out.2.2.2.2.1; show (A : Int) ≤ R1.commit; omega })
          clear hap9 hapc
          have hlen : (G1.seenTo i R1 A).seen.length ≤ 20000 ∧ (G1.seenTo i R1 A).wh.length = (G1.seenTo i R1 A).seen.length := by
            unfold PGroup.seenTo
            simp only [List.length_append, List.length_map, List.length_range, List.length_replicate, HF1.out.1, HF1.out.2.1]
            have h9 := HWL.out
            omega
          have hbtm : R2.bt ≤ G1.term := by
            rw [HF2.out.2.2.2.2.1]
            have h9 := maxBt_mem (t := 0) (List.mem_of_getElem? HR1.out)
            rw [HRQ1.out] at h9
            exact h9
          have HLDS := Lib.hid (l18leads HG7.out HR2.out HQ6.out HOK2.out (by show G1.right = true; exact HF1.out.2.2.2.2.2.2) (by show G1.led.length ≤ _; rw [HGQ1.out]; show G.led.length ≤ _; omega) (by omega) hlen.2 HN6.out
            (fun x hx hb => HLED.out hrl x (by have h9 : x ∈ G1.led := hx; rw [HGQ1.out] at h9; exact h9) (by rw [← HF2.out.2.2.2.2.1]; exact hb))
            (fun k x t hk ht htb hbs => by
              have hk9 : (G1.seen ++ (List.range (A - G1.seen.length)).map (fun (m : Nat) => R1.item ((G1.seen.length + m + 1 : Nat) : Int)))[k]? = some x := hk
              have ht9 : (G1.wh ++ List.replicate (A - G1.seen.length) G1.term)[k]? = some t := ht
              by_cases hks : k < G.seen.length
              · rw [List.getElem?_append_left (by rw [HF1.out.1]; exact hks), HF1.out.1] at hk9
                rw [List.getElem?_append_left (by rw [HF1.out.2.1, HWL.out]; exact hks), HF1.out.2.1] at ht9
                have h9 := HSEEN.out hrl k x t hk9 ht9 (by rw [← HF2.out.2.2.2.2.1]; exact htb) (by rw [← HF2.out.2.2.2.2.2.2]; exact hbs)
                rw [HF2.out.2.2.2.2.2.2, HF2.out.2.2.2.2.2.1]
                exact h9
              · exfalso
                rw [List.getElem?_append_right (by rw [HF1.out.2.1, HWL.out]; omega)] at ht9
                have h8 := List.mem_of_getElem? ht9
                rw [List.mem_replicate] at h8
                omega))
          have HHL := Lib.hid hrl
          clear hrl hlen hbtm
          go_wp2_with fail
          refine HLDS.out.mono ?_
          rintro e w9 ⟨rfl, M9, hg9, hp9, hb9⟩
          have HF := Lib.hid (show GrAt w9 B g i (G.collected i R) M9 by rw [HCO.out]; exact hg9)
          have HFB := Lib.hid (HB7.out.trans hb9)
          have HFQ := Lib.hid (show M9.ps[i]? = some (p, M5) by rw [hp9]; exact HQ6.out)
          clear hg9 hp9 hb9
          go_wp2_with fail
          go_end0
          exact ⟨rfl, M9, M5, HF.out, HFQ.out, HN6.out, HFB.out⟩
        · have tr : (R.role == 2) = false := by simpa using hrl
          have HCO := Lib.hid (show G.collected i R = G1.seenTo i R1 A by
            unfold PGroup.collected; rw [if_neg hrl, ← HEQ.out])
          clear hrl
          go_wp2_with fail
          go_end0
          exact ⟨rfl, M6, M5, by rw [HCO.out]; exact HG7.out, HQ6.out, HN6.out, HB7.out⟩
      · have hn : R2.next = ({ R2 with applied := R2.applied + 1 }, some (R2.applied + 1, R2.item (R2.applied + 1))) := by unfold PRaft.next; rw [if_neg (by rw [HF2.out.2.1, HF2.out.2.2.1]; omega)]
        have HN := Lib.hid hn
        clear hn
        have hAC2 : A < C := by omega
        go_wp2_with fail
        refine HNX9.out.mono ?_
        intro e w5 h5
        unfold NextTo at h5
        rw [HN.out, HF2.out.2.1] at h5
        obtain ⟨a5, c5, rfl, hby5, M5, hr5, ht5⟩ := h5
        obtain ⟨it, hit⟩ : ∃ it, it = R2.item ((A : Int) + 1) := ⟨_, rfl⟩
        rw [← hit] at hby5 ⊢
        have HIT := Lib.hid hit
        have hg5 := HGX.out.putRaft HR2.out HQX.out hr5 ht5
        obtain ⟨M6, hM6⟩ : ∃ M6 : GMem, M6 = { M' with ps := M'.ps.set i (p, M5) } := ⟨_, rfl⟩
        obtain ⟨G6, hG6⟩ : ∃ G6 : PGroup, G6 = { G1.seenTo i R1 A with rs := (G1.seenTo i R1 A).rs.set i { R2 with applied := (A : Int) + 1 } } := ⟨_, rfl⟩
        have HG6 := Lib.hid (show GrAt w5 B g i G6 M6 by rw [hM6, hG6]; exact hg5)
        have HQ6 := Lib.hid (show M6.ps[i]? = some (p, M5) by rw [hM6]; show (M'.ps.set i _)[i]? = _; rw [set_get (List.getElem?_eq_some_iff.1 HQX.out).1, if_pos rfl])
        have HN6 := Lib.hid (show M5.ps = [] by
          have h9 := hr5.po.q
          have h8 : ({ R2 with applied := (A : Int) + 1 } : PRaft).out = [] := by show R2.out = []; rw [HRQ2.out, HRQ1.out]; exact HOUT.out
          rw [h8] at h9
          exact List.map_eq_nil_iff.1 h9)
        have HB6 := Lib.hid (HBX.out.trans (ht5.below (fun k hk => HGX.out.inn (.raft i) k ⟨_, HQX.out, hk⟩) HGX.out.bs))
        have HBY6 := Lib.hid hby5
        have HM6 := Lib.hid hM6
        have HG6Q := Lib.hid hG6
        clear hr5 ht5 hg5 hM6 hG6 hit hby5
        obtain ⟨V, hV⟩ : ∃ V, V = w5.alloc (.cells #[.int .i64 it.1, .slice a5 it.2.length c5] 40) := ⟨_, rfl⟩
        have hbV : Below w5.heap.size w5 V := by rw [hV]; exact (Below.refl _ _).alloc (Nat.le_refl _) _
        have hrV : V.heap[w5.heap.size]? = some (.cells #[.int .i64 it.1, .slice a5 it.2.length c5] 40 (0, 0)) := by rw [hV]; exact heap_alloc_new w5 _
        have HGV := Lib.hid (HG6.out.below hbV)
        have HBV := Lib.hid (HB6.out.trans (hbV.mono HG6.out.bs))
        have HRV := Lib.hid hrV
        have HBYV := Lib.hid (OwnBs.below HBY6.out hbV)
        have HV := Lib.hid hV
        clear hbV hrV hV
        go_upto_region 19 with fail
        rw [← HV.out]
        have hr6 : G6.right = true := by rw [HG6Q.out]; exact HF1.out.2.2.2.2.2.2
        have hl3 : i < G6.ats.length := by
          rw [HG6Q.out]; show i < (G1.ats.set i (A : Int)).length
          rw [List.length_set, HF1.out.2.2.1]; exact (List.getElem?_eq_some_iff.1 HAT.out).1
        have ha6 : G6.ats[i]? = some (A : Int) := by
          rw [HG6Q.out]; show (G1.ats.set i (A : Int))[i]? = _
          rw [set_get (by rw [HF1.out.2.2.1]; exact (List.getElem?_eq_some_iff.1 HAT.out).1), if_pos rfl]
        obtain ⟨b3, hb31, hb32, hb33, hb34⟩ := HGV.out.at_ (i := 3) (by omega) (j := i) (by show i < G6.ats.length * 1; omega)
        have cr : V.cell? ⟨g, 8, none⟩ = some (.bool true) := by rw [← hr6]; exact HGV.out.cr
        have fr := HGV.out.f 8
        have c3 : V.cell? ⟨g, 3, none⟩ = some (.slice (some ⟨b3, 0, none⟩) G6.ats.length (M6.rc 3)) := by rw [← hb31]; exact HGV.out.cl (i := 3) (by omega)
        have k3 : V.cell? ⟨b3, i, none⟩ = some (.int .i64 A) := by
          rw [hb32]; show (G6.ats.map iz)[i]? = _; rw [List.getElem?_map, ha6]; rfl
        obtain ⟨S, hS⟩ : ∃ S, S = M6.ss.length := ⟨_, rfl⟩
        have c5' : V.cell? ⟨g, 5, none⟩ = some (.slice (M6.ra 5) S (M6.rc 5)) := by rw [hS]; exact HGV.out.cl (i := 5) (by omega)
        have hSl : S = G6.seen.length := by rw [hS, ← HGV.out.ct.sq]; simp
        have hSA : A ≤ S := by
          rw [hSl, HG6Q.out]; show A ≤ (G1.seen ++ _).length
          rw [List.length_append, List.length_map, List.length_range]; omega
        have hS2 : S ≤ 20000 := by
          rw [hSl, HG6Q.out]; show (G1.seen ++ _).length ≤ _
          rw [List.length_append, List.length_map, List.length_range, HF1.out.1]; omega
        have hi3 : (i : Int) < (G6.ats.length : Int) := by omega
        have tle : decide ((A : Int) + 1 ≤ (S : Int) + 1) = true := decide_eq_true (by omega)
        have tlen : decide (A ≤ S) = true := decide_eq_true hSA
        have HB3 := Lib.hid hb31
        have HSQ := Lib.hid hS
        have HSL := Lib.hid hSl
        obtain ⟨V2, hV2⟩ : ∃ V2, V2 = (V.setCell ⟨g, 8, none⟩ (.bool true)).setCell ⟨b3, i, none⟩ (.int .i64 ((A : Int) + 1)) := ⟨_, rfl⟩
        obtain ⟨G7, hG7⟩ : ∃ G7 : PGroup, G7 = { G6 with ats := G6.ats.set i ((A : Int) + 1) } := ⟨_, rfl⟩
        have HG7 := Lib.hid (show GrAt V2 B g i G7 M6 by
          have h1 := HGV.out.setRight true
          have e : ({ G6 with right := true } : PGroup) = G6 := by rw [← hr6]
          rw [e] at h1
          have h2 := h1.setAt (i := i) hl3 (b := b3) (cap := M6.rc 3) (by show Value.slice (M6.ra 3) G6.ats.length (M6.rc 3) = _; rw [hb31]) ((A : Int) + 1)
          rw [hV2, hG7]; exact h2)
        have HB7 := Lib.hid (show Below B wo V2 from HBV.out.trans ((below_set (HGV.out.inn .g g rfl) _).trans (by rw [hV2]; exact below_set (HGV.out.inn (.row 3) b3 ⟨by omega, by rw [hb31]; rfl⟩) _)))
        have hb3g : b3 ≠ g := fun e => by
          have h8 := HGV.out.dis .g (.row 3) b3 e ⟨by omega, by rw [hb31]; rfl⟩
          cases h8
        have k3' : (V.setCell ⟨g, 8, none⟩ (.bool true)).cell? ⟨b3, i, none⟩ = some (.int .i64 A) := (cell_far9 (Below.heap_setCell _ _ _ b3 hb3g)).trans k3
        have f3' : (V.setCell ⟨g, 8, none⟩ (.bool true)).frozen? ⟨b3, i, none⟩ = false := by
          have h1 := HGV.out.setRight true
          obtain ⟨q, e1, _, e3, _⟩ := h1.at_ (i := 3) (by omega) (j := i) (by show i < G6.ats.length * 1; omega)
          rw [hb31] at e1; injection e1 with e1; injection e1 with e1; subst e1
          exact e3
        have c5'' : ((V.setCell ⟨g, 8, none⟩ (.bool true)).setCell ⟨b3, i, none⟩ (.int .i64 ((A : Int) + 1))).cell? ⟨g, 5, none⟩ = some (.slice (M6.ra 5) S (M6.rc 5)) := by
          rw [← hV2, hS]; exact HG7.out.cl (i := 5) (by omega)
        have HG7Q := Lib.hid hG7
        have HV2 := Lib.hid hV2
        clear hr6 ha6 hb31 hb32 hb34 hS hSl hG7 hV2
        have HEQ9 := Lib.hid (show G7 = G1.oneMore i R1 A by rw [HG7Q.out, HG6Q.out, HRQ2.out]; rfl)
        have HITR := Lib.hid (show R1.item ((A : Int) + 1) = it by rw [HIT.out, HRQ2.out]; rfl)
        have HSG := Lib.hid (show S = (G1.seenTo i R1 A).seen.length by rw [HSL.out, HG6Q.out])
        have HRB := Lib.hid (show V2.heap[w5.heap.size]? = some (.cells #[.int .i64 it.1, .slice a5 it.2.length c5] 40 (0, 0)) by
          have hg9 : w5.heap.size ≠ g := fun e => by
            have h9 := HGV.out.row
            rw [← e] at h9
            exact absurd (kind_eq h9 HRV.out) (by decide)
          have hb9 : w5.heap.size ≠ b3 := fun e => by
            obtain ⟨cur, h9⟩ := own_kind (HGV.out.rows 3 (by omega)) (k := b3) (by rw [HB3.out]; rfl)
            rw [← e] at h9
            exact absurd (kind_eq h9 HRV.out) (by decide)
          rw [HV2.out]
          exact (Below.heap_setCell _ _ _ _ hb9).trans ((Below.heap_setCell _ _ _ _ hg9).trans HRV.out))
        have HBY2 := Lib.hid (show ByAt V2 a5 c5 it.2 from OwnBs.grown (T := 5) HBYV.out (fun k cs fr' hk hc => by
          have hg9 : k ≠ g := fun e => by
            rw [e] at hc
            exact absurd (kind_eq HGV.out.row hc) (by decide)
          have hb9 : k ≠ b3 := fun e => by
            obtain ⟨cur, h9⟩ := own_kind (HGV.out.rows 3 (by omega)) (k := b3) (by rw [HB3.out]; rfl)
            rw [e] at hc
            exact absurd (kind_eq h9 hc) (by decide)
          rw [HV2.out]
          exact (Below.heap_setCell _ _ _ _ hb9).trans (Below.heap_setCell _ _ _ _ hg9)) (by rw [HV2.out]; simp))
        go_upto_if 232 with fail
        rw [← HV2.out]
        clear cr fr c3 k3 hb33 hi3 hb3g k3' f3' c5' c5'' tle tlen
        go_cut [] (fun wc => ∃ M8, GrAt wc B g i (G1.seenTo i R1 (A + 1)) M8 ∧ M8.ps = M6.ps ∧ Below B wo wc ∧ wc.heap[w5.heap.size]? = some (.cells #[.int .i64 it.1, .slice a5 it.2.length c5] 40 (0, 0)) ∧ ByAt wc a5 c5 it.2)
        case first =>
          by_cases hAS : A = S
          · have tS : ((A : Int) + 1 == (S : Int) + 1) = true := by rw [beq_iff_eq]; omega
            have HAS := Lib.hid hAS
            clear hAS
            go_wp2_with fail
            refine wp_region_any (by kernel_rfl) ?_
            refine wpAny_of_held (S := BiS g w5.heap.size it.1 a5 it.2.length c5) _ _ _ _ ?_
            have hdr : Below V2.heap.size V2 V2.drew := (Below.refl _ _).drew
            have hg9 := HG7.out.lt (x := .g) rfl
            have hS0 : BiS g w5.heap.size it.1 a5 it.2.length c5 V2.drew := BiS.of hg9 HRB.out
            refine heldTake 0 233 rfl rfl (by kernel_rfl) (by kernel_rfl) (by kernel_rfl) (fun _ _ _ h => h) hS0 (.inl ⟨by rfl, by intro w' hS; obtain ⟨s1, s2, s3⟩ := hS; go_simp; (try rfl)⟩) ?_
            simp only [List.set_cons_zero, List.set_cons_succ]
            refine heldTake 1 234 rfl rfl (by kernel_rfl) (by kernel_rfl) (by kernel_rfl) (fun _ _ _ h => h) hS0 (.inl ⟨by rfl, by intro w' hS; obtain ⟨s1, s2, s3⟩ := hS; go_simp; (try rfl)⟩) ?_
            simp only [List.set_cons_zero, List.set_cons_succ]
            refine heldTake 5 238 rfl rfl (by kernel_rfl) (by kernel_rfl) (by kernel_rfl) (fun _ _ _ h => h) hS0 (.inl ⟨by rfl, by intro w' hS; obtain ⟨s1, s2, s3⟩ := hS; go_simp; (try rfl)⟩) ?_
            simp only [List.set_cons_zero, List.set_cons_succ]
            refine heldTake 2 235 rfl rfl (by kernel_rfl) (by kernel_rfl) (by kernel_rfl) (fun _ _ _ h => h) hS0 (.inl ⟨by rfl, by intro w' hS; obtain ⟨s1, s2, s3⟩ := hS; go_simp; (try rfl)⟩) ?_
            simp only [List.set_cons_zero, List.set_cons_succ]
            refine heldTake 3 236 rfl rfl (by kernel_rfl) (by kernel_rfl) (by kernel_rfl) (fun _ _ _ h => h) hS0 (.inl ⟨by rfl, by intro w' hS; obtain ⟨s1, s2, s3⟩ := hS; go_simp; (try rfl)⟩) ?_
            simp only [List.set_cons_zero, List.set_cons_succ]
            have HS0 := Lib.hid hS0
            clear hS0
            obtain ⟨U, hU⟩ : ∃ U, U = (V2.alloc (.cells #[.int .i64 it.1, .slice a5 it.2.length c5] 40)).drew := ⟨_, rfl⟩
            have hbU : Below V2.heap.size V2 U := by rw [hU]; exact ((Below.refl _ _).alloc (Nat.le_refl _) _).drew
            have HLU := Lib.hid (HG7.out.below hbU)
            have HBU := Lib.hid (HB7.out.trans (hbU.mono HG7.out.bs))
            have HIU := Lib.hid (show SlAt U U.heap.size 2 (some ⟨V2.heap.size, 0, none⟩) 1 1 [.int .i64 it.1, .slice a5 it.2.length c5] by
              rw [show U.heap.size = V2.heap.size + 1 by rw [hU]; simp, hU]
              exact (slAt_item V2 #[.int .i64 it.1, .slice a5 it.2.length c5] 40 2 rfl).below (show Below (V2.heap.size + 1) (V2.alloc (.cells #[.int .i64 it.1, .slice a5 it.2.length c5] 40)) _ from (Below.refl _ _).drew) (Nat.le_refl _))
            have HRU := Lib.hid ((hbU.block w5.heap.size (Array.getElem?_eq_some_iff.1 HRB.out).1).trans HRB.out)
            have HYU := Lib.hid (show OwnBs 5 U ⟨it.1, a5, it.2.length, c5, it.2⟩ by
              have h9 := OwnBs.below HBY2.out hbU
              exact ⟨⟨h9.1.hlen, h9.1.hle, h9.1.hmax, h9.1.hnil, h9.1.hbig, h9.1.hat⟩, h9.2⟩)
            have HYB := Lib.hid (OwnBs.below HBY2.out hbU)
            have HU := Lib.hid hU
            have HSU := Lib.hid (show BiS g w5.heap.size it.1 a5 it.2.length c5 U from BiS.of (HLU.out.lt (x := .g) rfl) HRU.out)
            clear hbU hU
            apply wayU (fun U' => U' = U)
            intro hway
            refine wpAnyH_two (i := 4) (j := 6) (by kernel_rfl) (wpOp_wp rfl (by rfl) ?_) (wpOp_wp rfl (by rfl) ?_)
            · have p4 : V2.cell? ⟨g, 5, none⟩ = some (.slice (M6.ra 5) S (M6.rc 5)) := by rw [HSQ.out]; exact HG7.out.cl (i := 5) (by omega)
              go_simp
              clear p4
              refine ⟨HS0.out, ?_⟩
              refine heldOne 6 (by kernel_rfl) rfl (by rfl) ?_
              go_simp
              rw [← HU.out]
              refine ⟨HSU.out, ?_⟩
              exact hway U rfl
            · go_simp
              rw [← HU.out]
              refine ⟨HSU.out, ?_⟩
              refine heldOne 4 (by kernel_rfl) rfl (by rfl) ?_
              have p4 : U.cell? ⟨g, 5, none⟩ = some (.slice (M6.ra 5) S (M6.rc 5)) := by rw [HSQ.out]; exact HLU.out.cl (i := 5) (by omega)
              go_simp
              clear p4
              refine ⟨HSU.out, ?_⟩
              exact hway U rfl
            rintro U' rfl
            have hrow5 : U'.ownsRow 0 40 2 (.slice (M6.ra 5) S (M6.rc 5)) S (cellsM M6.ss) := by rw [HSQ.out]; exact HLU.out.rows 5 (by omega)
            refine heldOne 7 (by kernel_rfl) rfl (by rfl) ?_
            refine wp_append_sl U' (.tmp 237) (.tmp 239) 30 rfl 0 40 iT (.agg #[.int .i64 0, .slice none 0 0]) 2 32 Tryz.underlying30 jT jT0 jT1 jT2 rfl (by decide) (.slice (M6.ra 5) S (M6.rc 5)) S (cellsM M6.ss) rfl hrow5 U'.heap.size (some ⟨V2.heap.size, 0, none⟩) 1 1 [.int .i64 it.1, .slice a5 it.2.length c5] rfl HIU.out (by intro u hu; simp at hu; rcases hu with rfl | rfl <;> rfl) (by unfold maxLen; omega) (by omega) (Nat.zero_le _) ?_
            intro a11 c11 W11 o11 g11 hat11
            rw [HSQ.out] at o11 g11 hat11
            have hadd := HLU.out.addSeen (fun q hq => by
              rw [HQ6.out] at hq; injection hq with hq; rw [← hq]; exact HN6.out) ⟨it.1, a5, it.2.length, c5, it.2⟩ HYU.out o11 g11 hat11
            obtain ⟨p2, f2⟩ := HLU.out.cell1 (i := 5) (by omega) g11
            have hbx : W11.heap[w5.heap.size]? = some (.cells #[.int .i64 it.1, .slice a5 it.2.length c5] 40 (0, 0)) := (g11.block w5.heap.size (Array.getElem?_eq_some_iff.1 HRU.out).1 (fun e => by
              have h9 := HG6.out.lt (x := .row 5) (k := w5.heap.size) ⟨by omega, by rw [ownBlock_eq] at e; exact e.symm⟩
              omega)).trans HRU.out
            have hS11 : BiS g w5.heap.size it.1 a5 it.2.length c5 W11 := BiS.of (Nat.lt_of_lt_of_le HSU.out.s g11.size) hbx
            refine ⟨hS11, ?_⟩
            go_simp
            refine heldTake 8 241 rfl rfl (by kernel_rfl) (by kernel_rfl) (by kernel_rfl) (fun _ _ _ h => h) hS11 (.inl ⟨by rfl, by intro w' hS; obtain ⟨s1, s2, s3⟩ := hS; go_simp; (try rfl)⟩) ?_
            simp only [List.set_cons_zero, List.set_cons_succ]
            refine heldTake 9 242 rfl rfl (by kernel_rfl) (by kernel_rfl) (by kernel_rfl) (fun _ _ _ h => h) hS11 (.inl ⟨by rfl, by intro w' hS; obtain ⟨s1, s2, s3⟩ := hS; go_simp; (try rfl)⟩) ?_
            simp only [List.set_cons_zero, List.set_cons_succ]
            refine heldOne 10 (by kernel_rfl) rfl (by rfl) ?_
            refine wp_store_cell 30 (.tmp 242) (.tmp 240) rfl g 5 (.slice a11 (S + 1) c11) _ rfl rfl rfl infoItems9 p2 f2 ?_
            have hbl := HLU.out.grewBelow (i := 5) (by omega) g11 5 (.slice a11 (M6.ss.length + 1) c11)
            have hf12 := HLU.out.grewFr (j := 5) (by omega) g11 5 (.slice a11 (M6.ss.length + 1) c11)
            rw [HSQ.out]
            obtain ⟨W12, hW12⟩ : ∃ W12, W12 = W11.setCell ⟨g, 5, none⟩ (.slice a11 (M6.ss.length + 1) c11) := ⟨_, rfl⟩
            have hig : w5.heap.size ≠ g := fun e => by
              have h9 := HG6.out.lt (x := .g) (k := g) rfl
              omega
            have hbx2 : W12.heap[w5.heap.size]? = some (.cells #[.int .i64 it.1, .slice a5 it.2.length c5] 40 (0, 0)) := by
              rw [hW12]; exact (Below.heap_setCell _ _ _ _ hig).trans hbx
            rw [← hW12] at hadd hbl hf12 ⊢
            have HY12 := Lib.hid (HLU.out.bytes hf12 HYB.out)
            have HG12 := Lib.hid hadd
            have HB12 := Lib.hid (HBU.out.trans hbl)
            have HR12 := Lib.hid hbx2
            have hS12 : BiS g w5.heap.size it.1 a5 it.2.length c5 W12 := BiS.of (hadd.lt (x := .g) rfl) hbx2
            refine ⟨hS12, wpAnyH_done (by kernel_rfl) ?_ _⟩
            clear hS11 hS12 p2 f2 hbx hbx2 hadd hbl hf12 hig hW12 o11 g11 hat11 hdr hrow5
            obtain ⟨GX, hGX⟩ : ∃ GX : PGroup, GX = { G7 with seen := G7.seen ++ [it] } := ⟨_, rfl⟩
            obtain ⟨MX, hMX⟩ : ∃ MX : GMem, MX = { M6 with ra := upd M6.ra 5 a11, rc := upd M6.rc 5 c11, ss := M6.ss ++ [⟨it.1, a5, it.2.length, c5, it.2⟩] } := ⟨_, rfl⟩
            have HGX2 := Lib.hid (show GrAt W12 B g i GX MX by rw [hGX, hMX]; exact HG12.out)
            have HMXP := Lib.hid (show MX.ps = M6.ps by rw [hMX])
            have hrs7 : G7.rs = G1.rs.set i { R1 with applied := (A : Int) + 1 } := by
              rw [HEQ9.out]; show (G1.rs.set i _).set i _ = _; rw [List.set_set]
            have hrsX : GX.rs = G1.rs.set i { R1 with applied := (A : Int) + 1 } := by rw [hGX]; exact hrs7
            have HTX := Lib.hid (show GX.term = G1.term from term_set (R' := { R1 with applied := (A : Int) + 1 }) HR1.out rfl GX hrsX)
            have hpX : MX.ps.length ≤ 7 := by
              rw [HGX2.out.rl, hrsX, List.length_set, HGQ1.out]
              show (G.rs.set i _).length ≤ 7
              rw [List.length_set]; exact hps
            have hwX : GX.wh.length ≤ 20000 := by
              rw [hGX]; show G7.wh.length ≤ _
              rw [HEQ9.out]; show (G1.wh ++ _).length ≤ _
              rw [List.length_append, List.length_replicate, HF1.out.2.1, HWL.out]; omega
            have HGXQ := Lib.hid hGX
            clear hGX hMX hrs7 hrsX
            go_wp2_with fail
            refine wp_region_any (by kernel_rfl) ?_
            refine wpAny_of_held (S := PZ g) _ _ _ _ ?_
            have hdr : Below W12.heap.size W12 W12.drew := (Below.refl _ _).drew
            have HD := Lib.hid (HGX2.out.below hdr)
            have hS0 : PZ g W12.drew := ⟨HD.out.lt (x := .g) rfl⟩
            refine heldTake 0 243 rfl rfl (by kernel_rfl) (by kernel_rfl) (by kernel_rfl) (fun _ _ _ h => h) hS0 (.inl ⟨by rfl, by intro w' hS; obtain ⟨s1⟩ := hS; go_simp; (try rfl)⟩) ?_
            simp only [List.set_cons_zero, List.set_cons_succ]
            refine heldTake 1 244 rfl rfl (by kernel_rfl) (by kernel_rfl) (by kernel_rfl) (fun _ _ _ h => h) hS0 (.inl ⟨by rfl, by intro w' hS; obtain ⟨s1⟩ := hS; go_simp; (try rfl)⟩) ?_
            simp only [List.set_cons_zero, List.set_cons_succ]
            refine heldTake 5 248 rfl rfl (by kernel_rfl) (by kernel_rfl) (by kernel_rfl) (fun _ _ _ h => h) hS0 (.inl ⟨by rfl, by intro w' hS; obtain ⟨s1⟩ := hS; go_simp; (try rfl)⟩) ?_
            simp only [List.set_cons_zero, List.set_cons_succ]
            refine heldTake 2 245 rfl rfl (by kernel_rfl) (by kernel_rfl) (by kernel_rfl) (fun _ _ _ h => h) hS0 (.inl ⟨by rfl, by intro w' hS; obtain ⟨s1⟩ := hS; go_simp; (try rfl)⟩) ?_
            simp only [List.set_cons_zero, List.set_cons_succ]
            refine heldTake 3 246 rfl rfl (by kernel_rfl) (by kernel_rfl) (by kernel_rfl) (fun _ _ _ h => h) hS0 (.inl ⟨by rfl, by intro w' hS; obtain ⟨s1⟩ := hS; go_simp; (try rfl)⟩) ?_
            simp only [List.set_cons_zero, List.set_cons_succ]
            have HS0 := Lib.hid hS0
            clear hS0
            obtain ⟨U, hU⟩ : ∃ U, U = (W12.alloc (.cells #[.int .i64 G1.term] 3)).drew := ⟨_, rfl⟩
            have hbU : Below W12.heap.size W12 U := by rw [hU]; exact ((Below.refl _ _).alloc (Nat.le_refl _) _).drew
            have HLU2 := Lib.hid (HGX2.out.below hbU)
            have HBU2 := Lib.hid (HB12.out.trans (hbU.mono HGX2.out.bs))
            have HIU2 := Lib.hid (show SlAt U U.heap.size 1 (some ⟨W12.heap.size, 0, none⟩) 1 1 [.int .i64 G1.term] by
              rw [show U.heap.size = W12.heap.size + 1 by rw [hU]; simp, hU]
              exact (slAt_one W12 _ _).below (show Below (W12.heap.size + 1) (W12.alloc (.cells #[.int .i64 G1.term] 3)) _ from (Below.refl _ _).drew) (Nat.le_refl _))
            have HRU2 := Lib.hid ((hbU.block w5.heap.size (Array.getElem?_eq_some_iff.1 HR12.out).1).trans HR12.out)
            have HYU2 := Lib.hid (OwnBs.below HY12.out hbU)
            have HU2 := Lib.hid hU
            have HSU2 := Lib.hid (show PZ g U from ⟨HLU2.out.lt (x := .g) rfl⟩)
            have HTM := Lib.hid (l18term HD.out hpX)
            clear hbU hU
            apply wayU (fun U' => U' = U)
            intro hway
            have HP6 := Lib.hid (show ∀ Y, GrAt Y B g i GX MX → Y.cell? ⟨g, 6, none⟩ = some (.slice (MX.ra 6) GX.wh.length (MX.rc 6)) from fun Y hY => hY.cl (i := 6) (by omega))
            refine wpAnyH_two (i := 4) (j := 6) (by kernel_rfl) (wpOp_wp rfl (by rfl) ?_) (wpOp_wp rfl (by rfl) ?_)
            · have p4 := HP6.out _ HD.out
              go_simp
              clear p4
              refine ⟨HS0.out, ?_⟩
              refine heldOne 6 (by kernel_rfl) rfl (by rfl) ?_
              go_simp
              refine HTM.out.mono ?_
              rintro e w9 ⟨rfl, rfl⟩
              rw [HTX.out]
              refine ⟨HS0.out, ?_⟩
              refine heldOne 7 (by kernel_rfl) rfl (by rfl) ?_
              go_simp
              rw [← HU2.out]
              refine ⟨HSU2.out, ?_⟩
              exact hway U rfl
            · go_simp
              refine HTM.out.mono ?_
              rintro e w9 ⟨rfl, rfl⟩
              rw [HTX.out]
              refine ⟨HS0.out, ?_⟩
              refine wpAnyH_two (i := 4) (j := 7) (by kernel_rfl) (wpOp_wp rfl (by rfl) ?_) (wpOp_wp rfl (by rfl) ?_)
              · have p4 := HP6.out _ HD.out
                go_simp
                clear p4
                refine ⟨HS0.out, ?_⟩
                refine heldOne 7 (by kernel_rfl) rfl (by rfl) ?_
                go_simp
                rw [← HU2.out]
                refine ⟨HSU2.out, ?_⟩
                exact hway U rfl
              · go_simp
                rw [← HU2.out]
                refine ⟨HSU2.out, ?_⟩
                refine heldOne 4 (by kernel_rfl) rfl (by rfl) ?_
                have p4 := HP6.out _ HLU2.out
                go_simp
                clear p4
                refine ⟨HSU2.out, ?_⟩
                exact hway U rfl
            rintro U' rfl
            refine heldOne 8 (by kernel_rfl) rfl (by rfl) ?_
            refine wp_append_sl U' (.tmp 247) (.tmp 250) 63 rfl 0 3 iI (.int .i64 0) 1 8 Tryz.underlying63 jI jI0 jI1 jI2 rfl (by decide) (.slice (MX.ra 6) GX.wh.length (MX.rc 6)) GX.wh.length (GX.wh.map iz) rfl (HLU2.out.rows 6 (by omega)) U'.heap.size (some ⟨W12.heap.size, 0, none⟩) 1 1 [.int .i64 G1.term] rfl HIU2.out (by intro u hu; simp at hu; subst hu; rfl) (by unfold maxLen; omega) (by omega) (Nat.zero_le _) ?_
            intro a21 c21 W21 o21 g21 hat21
            have hadd := HLU2.out.addWhen G1.term o21 g21 hat21
            obtain ⟨p2, f2⟩ := HLU2.out.cell1 (i := 6) (by omega) g21
            have hS21 : PZ g W21 := ⟨Nat.lt_of_lt_of_le HSU2.out.s g21.size⟩
            refine ⟨hS21, ?_⟩
            go_simp
            refine heldTake 9 252 rfl rfl (by kernel_rfl) (by kernel_rfl) (by kernel_rfl) (fun _ _ _ h => h) hS21 (.inl ⟨by rfl, by intro w' hS; obtain ⟨s1⟩ := hS; go_simp; (try rfl)⟩) ?_
            simp only [List.set_cons_zero, List.set_cons_succ]
            refine heldTake 10 253 rfl rfl (by kernel_rfl) (by kernel_rfl) (by kernel_rfl) (fun _ _ _ h => h) hS21 (.inl ⟨by rfl, by intro w' hS; obtain ⟨s1⟩ := hS; go_simp; (try rfl)⟩) ?_
            simp only [List.set_cons_zero, List.set_cons_succ]
            refine heldOne 11 (by kernel_rfl) rfl (by rfl) ?_
            refine wp_store_cell 63 (.tmp 253) (.tmp 251) rfl g 6 (.slice a21 (GX.wh.length + 1) c21) _ rfl rfl rfl infoInts9 p2 f2 ?_
            have hbl := HLU2.out.grewBelow (i := 6) (by omega) g21 6 (.slice a21 (GX.wh.length + 1) c21)
            have hf22 := HLU2.out.grewFr (j := 6) (by omega) g21 6 (.slice a21 (GX.wh.length + 1) c21)
            obtain ⟨W22, hW22⟩ : ∃ W22, W22 = W21.setCell ⟨g, 6, none⟩ (.slice a21 (GX.wh.length + 1) c21) := ⟨_, rfl⟩
            rw [← hW22] at hadd hbl hf22 ⊢
            have hbx2 : W22.heap[w5.heap.size]? = some (.cells #[.int .i64 it.1, .slice a5 it.2.length c5] 40 (0, 0)) := (hf22.block w5.heap.size (Array.getElem?_eq_some_iff.1 HRU2.out).1 (fun x hx hS => by
              rcases hS with rfl | rfl
              · have e : w5.heap.size = g := hx
                have h9 := HLU2.out.row
                rw [← e] at h9
                exact absurd (kind_eq h9 HRU2.out) (by decide)
              · obtain ⟨cur, h9⟩ := own_kind (HLU2.out.rows 6 (by omega)) (k := w5.heap.size) hx.2
                exact absurd (kind_eq h9 HRU2.out) (by decide))).trans HRU2.out
            have hle9 : G1.seen.length ≤ A := by
              have h9 := HSG.out
              have h8 := HAS.out
              unfold PGroup.seenTo at h9
              simp only [List.length_append, List.length_map, List.length_range] at h9
              omega
            have heq9 : ({ GX with wh := GX.wh ++ [G1.term] } : PGroup) = G1.seenTo i R1 (A + 1) := by
              rw [← oneMore_new hle9, HITR.out, ← HEQ9.out, HGXQ.out]
            rw [heq9] at hadd
            have HF22 := Lib.hid hadd
            have HB22 := Lib.hid (HBU2.out.trans hbl)
            have HR22 := Lib.hid hbx2
            have HY22 := Lib.hid (HLU2.out.bytes hf22 HYU2.out)
            have hS22 : PZ g W22 := ⟨hadd.lt (x := .g) rfl⟩
            refine ⟨hS22, wpAnyH_done (by kernel_rfl) ?_ _⟩
            clear hS21 hS22 p2 f2 hbx2 hadd hbl hf22 hle9 heq9 hW22 o21 g21 hat21 hdr hpX hwX
            go_wp2_with fail
            go_meet
            exact ⟨_, HF22.out, HMXP.out, HB22.out, HR22.out, HY22.out⟩
          · have tS : ((A : Int) + 1 == (S : Int) + 1) = false := by rw [beq_eq_false_iff_ne]; omega
            have HFIN := Lib.hid (show GrAt V2 B g i (G1.seenTo i R1 (A + 1)) M6 by
              rw [← oneMore_old (by
                have h9 := HSG.out
                unfold PGroup.seenTo at h9
                simp only [List.length_append, List.length_map, List.length_range] at h9
                omega), ← HEQ9.out]
              exact HG7.out)
            go_wp2_with fail
            go_meet
            exact ⟨M6, HFIN.out, rfl, HB7.out, HRB.out, HBY2.out⟩
        case rest =>
          obtain ⟨M8, hg8, hp8, hb8, hr8, hy8⟩ := hcut
          obtain ⟨G9, hG9⟩ : ∃ G9 : PGroup, G9 = G1.seenTo i R1 (A + 1) := ⟨_, rfl⟩
          rw [← hG9] at hg8
          obtain ⟨n9, hn9⟩ : ∃ n9, n9 = M8.ss.length := ⟨_, rfl⟩
          have hsn : n9 = G9.seen.length := by rw [hn9, ← hg8.ct.sq]; simp
          have hgl : G9.seen.length = G1.seen.length + (A + 1 - G1.seen.length) := by
            rw [hG9]; unfold PGroup.seenTo; simp only [List.length_append, List.length_map, List.length_range]
          have hAn : A < n9 := by omega
          have hn92 : n9 ≤ 20000 := by rw [hsn, hgl, HF1.out.1]; omega
          have hseenA : G9.seen[A]? = some it := by
            rw [hG9]
            show (G1.seen ++ (List.range (A + 1 - G1.seen.length)).map (fun (m : Nat) => R1.item ((G1.seen.length + m + 1 : Nat) : Int)))[A]? = _
            by_cases hAs : A < G1.seen.length
            · rw [List.getElem?_append_left hAs]
              obtain ⟨x, hx⟩ : ∃ x, G1.seen[A]? = some x := ⟨_, List.getElem?_eq_getElem hAs⟩
              have h9 := HAG.out A x (by rw [← HF1.out.1]; exact hx) (by rw [HA0.out]; omega) (by rw [HC.out]; omega)
              rw [hx, HIT.out, HF2.out.2.2.2.2.2.1, ← h9]
              rfl
            · rw [List.getElem?_append_right (by omega), List.getElem?_map, List.getElem?_range (by omega)]
              show some (R1.item ((G1.seen.length + (A - G1.seen.length) + 1 : Nat) : Int)) = _
              rw [show G1.seen.length + (A - G1.seen.length) + 1 = A + 1 by omega, ← HITR.out]
              rfl
          obtain ⟨ms, hms⟩ : ∃ ms, M8.ss[A]? = some ms := ⟨_, List.getElem?_eq_getElem (by omega)⟩
          have hmx : ms.it = it := by
            have h9 := hg8.ct.sq
            have h8 : (M8.ss.map MItem.it)[A]? = some it := by rw [h9]; exact hseenA
            rw [List.getElem?_map, hms] at h8
            injection h8
          obtain ⟨q5, hq51, hq52, _, hq54⟩ := hg8.at_ (i := 5) (by omega) (j := A * 2) (by show A * 2 < M8.ss.length * 2; omega)
          obtain ⟨q5', hq51', hq52', _, _⟩ := hg8.at_ (i := 5) (by omega) (j := A * 2 + 1) (by show A * 2 + 1 < M8.ss.length * 2; omega)
          rw [hq51] at hq51'
          injection hq51' with e1; injection e1 with e1; subst e1
          obtain ⟨m1, hm1⟩ : ∃ m1 : MItem, m1 = ⟨it.1, a5, it.2.length, c5, it.2⟩ := ⟨_, rfl⟩
          have hr9 : G9.right = true := by rw [hG9]; exact HF1.out.2.2.2.2.2.2
          have hcr := hg8.cr
          rw [hr9] at hcr
          have hd5 : wc.cell? ⟨g, 5, none⟩ = some (.slice (some ⟨q5, 0, none⟩) n9 (M8.rc 5)) := by rw [← hq51, hn9]; exact hg8.cl (i := 5) (by omega)
          have HSV := Lib.hid (show SmS g q5 (A * 2) w5.heap.size n9 (M8.rc 5) m1 ms wc from
            ⟨hg8.lt (x := .g) rfl, hcr, hd5, hq52.trans (cellsM_at _ _ _ hms).1, hq52'.trans (cellsM_at _ _ _ hms).2, by rw [hm1, cell_of_row _ _ 0 _ _ _ hr8]; rfl, by rw [hm1, cell_of_row _ _ 1 _ _ _ hr8]; rfl⟩)
          have HO1 := Lib.hid (show OwnBs 5 wc m1 by
            rw [hm1]; exact ⟨⟨hy8.1.hlen, hy8.1.hle, hy8.1.hmax, hy8.1.hnil, hy8.1.hbig, hy8.1.hat⟩, hy8.2⟩)
          have HO2 := Lib.hid (hg8.ct.sb ms (List.mem_of_getElem? hms))
          have HSAME := Lib.hid (show decide (([m1] : List MItem).map MItem.it = ([ms] : List MItem).map MItem.it) = true by
            refine decide_eq_true ?_
            show [m1.it] = [ms.it]
            rw [hmx, hm1])
          have HG8 := Lib.hid hg8
          have HP8 := Lib.hid hp8
          have HB8 := Lib.hid hb8
          have HR8 := Lib.hid hr8
          have HR9 := Lib.hid hr9
          have HG9 := Lib.hid hG9
          have HQ5 := Lib.hid hq51
          have hw6 : w5.heap.size < wc.heap.size := (Array.getElem?_eq_some_iff.1 hr8).1
          have hA0 : (0 : Int) ≤ (A : Int) := by omega
          have hA1 : (A : Int) < (n9 : Int) := by omega
          clear hm1 hg8 hp8 hb8 hr8 hy8 hG9 hq51 hq52 hq52' hseenA hms hmx hcr hd5 hr9 hn9 hsn hgl
          go_wp2_with fail
          refine wp_region_any (by kernel_rfl) ?_
          refine wpAny_of_held (S := SmS g q5 (A * 2) w5.heap.size n9 (M8.rc 5) m1 ms) _ _ _ _ ?_
          have hdr : Below wc.heap.size wc wc.drew := (Below.refl _ _).drew
          have hS0 : SmS g q5 (A * 2) w5.heap.size n9 (M8.rc 5) m1 ms wc.drew := ⟨HSV.out.s, HSV.out.r, HSV.out.s5, HSV.out.x0, HSV.out.x1, HSV.out.i0, HSV.out.i1⟩
          have wA : IntKind.i64.wrap ((A : Int) + 1 - 1) = (A : Int) := by rw [IntWalk.i64_in _ (by omega)]; omega
          have wA2 : IntKind.i64.wrap (A : Int) = (A : Int) := IntWalk.i64_in _ (by omega)
          refine heldTake 0 254 rfl rfl (by kernel_rfl) (by kernel_rfl) (by kernel_rfl) (fun _ _ _ h => h) hS0 (.inl ⟨by rfl, by intro w' hS; obtain ⟨s1, s2, s3, s4, s5, s6, s7⟩ := hS; go_simp; (try rfl)⟩) ?_
          simp only [List.set_cons_zero, List.set_cons_succ]
          refine heldTake 1 255 rfl rfl (by kernel_rfl) (by kernel_rfl) (by kernel_rfl) (fun _ _ _ h => h) hS0 (.inl ⟨by rfl, by intro w' hS; obtain ⟨s1, s2, s3, s4, s5, s6, s7⟩ := hS; go_simp; (try rfl)⟩) ?_
          simp only [List.set_cons_zero, List.set_cons_succ]
          refine heldTake 3 257 rfl rfl (by kernel_rfl) (by kernel_rfl) (by kernel_rfl) (fun _ _ _ h => h) hS0 (.inl ⟨by rfl, by intro w' hS; obtain ⟨s1, s2, s3, s4, s5, s6, s7⟩ := hS; go_simp; (try rfl)⟩) ?_
          simp only [List.set_cons_zero, List.set_cons_succ]
          refine heldTake 7 261 rfl rfl (by kernel_rfl) (by kernel_rfl) (by kernel_rfl) (fun _ _ _ h => h) hS0 (.inl ⟨by rfl, by intro w' hS; obtain ⟨s1, s2, s3, s4, s5, s6, s7⟩ := hS; go_simp; (try rfl)⟩) ?_
          simp only [List.set_cons_zero, List.set_cons_succ]
          refine heldTake 4 258 rfl rfl (by kernel_rfl) (by kernel_rfl) (by kernel_rfl) (fun _ _ _ h => h) hS0 (.inl ⟨by rfl, by intro w' hS; obtain ⟨s1, s2, s3, s4, s5, s6, s7⟩ := hS; go_simp; (try rfl)⟩) ?_
          simp only [List.set_cons_zero, List.set_cons_succ]
          refine heldTake 8 262 (v := .int .i64 A) rfl rfl (by kernel_rfl) (by kernel_rfl) (by kernel_rfl) (fun _ _ _ h => h) hS0 (.inl ⟨by rfl, by intro w' hS; clear hS; go_simp; (try (all_goals rfl))⟩) ?_
          simp only [List.set_cons_zero, List.set_cons_succ]
          clear wA wA2
          refine heldTake 5 259 rfl rfl (by kernel_rfl) (by kernel_rfl) (by kernel_rfl) (fun _ _ _ h => h) hS0 (.inl ⟨by rfl, by intro w' hS; obtain ⟨s1, s2, s3, s4, s5, s6, s7⟩ := hS; go_simp; (try rfl)⟩) ?_
          simp only [List.set_cons_zero, List.set_cons_succ]
          refine heldTake 6 260 rfl rfl (by kernel_rfl) (by kernel_rfl) (by kernel_rfl) (fun _ _ _ h => h) hS0 (.inl ⟨by rfl, by intro w' hS; obtain ⟨s1, s2, s3, s4, s5, s6, s7⟩ := hS; go_simp; (try rfl)⟩) ?_
          simp only [List.set_cons_zero, List.set_cons_succ]
          refine heldTake 9 263 rfl rfl (by kernel_rfl) (by kernel_rfl) (by kernel_rfl) (fun _ _ _ h => h) hS0 (.inl ⟨by rfl, by intro w' hS; obtain ⟨s1, s2, s3, s4, s5, s6, s7⟩ := hS; go_simp; (try rfl)⟩) ?_
          simp only [List.set_cons_zero, List.set_cons_succ]
          refine heldTake 10 264 rfl rfl (by kernel_rfl) (by kernel_rfl) (by kernel_rfl) (fun _ _ _ h => h) hS0 (.inl ⟨by rfl, by intro w' hS; obtain ⟨s1, s2, s3, s4, s5, s6, s7⟩ := hS; go_simp; (try rfl)⟩) ?_
          simp only [List.set_cons_zero, List.set_cons_succ]
          have HS0 := Lib.hid hS0
          clear hS0
          have HKS := Lib.hid (show ∀ U, Below wc.heap.size wc U → SmS g q5 (A * 2) w5.heap.size n9 (M8.rc 5) m1 ms U from fun U hb => by
            have hg5 : q5 < wc.heap.size := by
              have h9 := HSV.out.x0
              exact cell_lt9 h9
            exact ⟨Nat.lt_of_lt_of_le HSV.out.s hb.size, (hb.cell (p := ⟨g, 8, none⟩) HSV.out.s).trans HSV.out.r, (hb.cell (p := ⟨g, 5, none⟩) HSV.out.s).trans HSV.out.s5, (hb.cell (p := ⟨q5, A * 2, none⟩) hg5).trans HSV.out.x0, (hb.cell (p := ⟨q5, A * 2 + 1, none⟩) hg5).trans HSV.out.x1, (hb.cell (p := ⟨w5.heap.size, 0, none⟩) hw6).trans HSV.out.i0, (hb.cell (p := ⟨w5.heap.size, 1, none⟩) hw6).trans HSV.out.i1⟩)
          apply wayS (fun U n1 n2 => SmU wc m1 ms U n1 n2)
          intro hway
          obtain ⟨UA, hUA⟩ : ∃ UA, UA = ((wc.alloc (.cells #[.int .i64 m1.t, .slice m1.a m1.n m1.c] 40)).alloc (.cells #[.int .i64 ms.t, .slice ms.a ms.n ms.c] 40)).drew := ⟨_, rfl⟩
          obtain ⟨UB, hUB⟩ : ∃ UB, UB = ((wc.alloc (.cells #[.int .i64 ms.t, .slice ms.a ms.n ms.c] 40)).alloc (.cells #[.int .i64 m1.t, .slice m1.a m1.n m1.c] 40)).drew := ⟨_, rfl⟩
          have HUA := Lib.hid hUA
          have HUB := Lib.hid hUB
          have hab := SmU.ab wc HO1.out HO2.out
          have hba := SmU.ba wc HO1.out HO2.out
          rw [← hUA] at hab
          rw [← hUB] at hba
          have HAB := Lib.hid hab
          have HBA := Lib.hid hba
          clear hUA hUB hab hba
          have HA1 := Lib.hid (show SmS g q5 (A * 2) w5.heap.size n9 (M8.rc 5) m1 ms (wc.alloc (.cells #[.int .i64 m1.t, .slice m1.a m1.n m1.c] 40)).drew from HKS.out _ (((Below.refl _ wc).alloc (Nat.le_refl _) _).drew))
          have HB1 := Lib.hid (show SmS g q5 (A * 2) w5.heap.size n9 (M8.rc 5) m1 ms (wc.alloc (.cells #[.int .i64 ms.t, .slice ms.a ms.n ms.c] 40)).drew from HKS.out _ (((Below.refl _ wc).alloc (Nat.le_refl _) _).drew))
          have HUAS := Lib.hid (HKS.out _ HAB.out.bl)
          have HUBS := Lib.hid (HKS.out _ HBA.out.bl)
          refine wpAnyH_two (i := 2) (j := 11) (by kernel_rfl) (wpOp_wp rfl (by rfl) ?_) (wpOp_wp rfl (by rfl) ?_)
          · go_simp
            refine ⟨HA1.out, ?_⟩
            refine heldOne 11 (by kernel_rfl) rfl (by rfl) ?_
            go_simp
            rw [← HUA.out]
            refine ⟨HUAS.out, ?_⟩
            have hab := HAB.out
            generalize wc.heap.size + 1 = n2 at hab ⊢
            generalize wc.heap.size = n1 at hab ⊢
            exact hway UA _ _ hab
          · go_simp
            refine ⟨HB1.out, ?_⟩
            refine heldOne 2 (by kernel_rfl) rfl (by rfl) ?_
            go_simp
            rw [← HUB.out]
            refine ⟨HUBS.out, ?_⟩
            have hab := HBA.out
            generalize wc.heap.size + 1 = n2 at hab ⊢
            generalize wc.heap.size = n1 at hab ⊢
            exact hway UB _ _ hab
          intro U n1 n2 hsm
          have HSM := Lib.hid hsm
          clear hsm
          refine heldOne 12 (by kernel_rfl) rfl (by rfl) ?_
          go_simp
          refine (r17Same [m1] [ms] (some ⟨n1, 0, none⟩) (some ⟨n2, 0, none⟩) 1 1 1 1 (by omega) U HSM.out.i1 HSM.out.i2).mono ?_
          rintro e V9 ⟨rfl, hb9⟩
          rw [HSAME.out]
          have HB9 := Lib.hid (HSM.out.bl.trans (hb9.mono HSM.out.bl.size))
          have HL9 := Lib.hid (HG8.out.below HB9.out)
          have hS9 := HKS.out _ HB9.out
          clear hb9
          refine ⟨hS9, ?_⟩
          refine heldTake 13 267 rfl rfl (by kernel_rfl) (by kernel_rfl) (by kernel_rfl) (fun _ _ _ h => h) hS9 (.inl ⟨by rfl, by intro w' hS; obtain ⟨s1, s2, s3, s4, s5, s6, s7⟩ := hS; go_simp; (try rfl)⟩) ?_
          simp only [List.set_cons_zero, List.set_cons_succ]
          refine heldTake 14 268 rfl rfl (by kernel_rfl) (by kernel_rfl) (by kernel_rfl) (fun _ _ _ h => h) hS9 (.inl ⟨by rfl, by intro w' hS; obtain ⟨s1, s2, s3, s4, s5, s6, s7⟩ := hS; go_simp; (try rfl)⟩) ?_
          simp only [List.set_cons_zero, List.set_cons_succ]
          refine heldOne 15 (by kernel_rfl) rfl (by rfl) ?_
          refine wp_store_cell 4 (.tmp 268) (.tmp 266) rfl g 8 (.bool true) _ rfl rfl rfl infoBool8 hS9.r (HL9.out.f 8) ?_
          have HRG := Lib.hid (show GrAt (V9.setCell ⟨g, 8, none⟩ (.bool true)) B g i G9 M8 by
            have h1 := HL9.out.setRight true
            have e : ({ G9 with right := true } : PGroup) = G9 := by rw [← HR9.out]
            rw [e] at h1
            exact h1)
          have HBG := Lib.hid (show Below B wo (V9.setCell ⟨g, 8, none⟩ (.bool true)) from HB8.out.trans ((HB9.out.mono HG8.out.bs).trans (below_set (HL9.out.inn .g g rfl) _)))
          obtain ⟨W9, hW9⟩ : ∃ W9, W9 = V9.setCell ⟨g, 8, none⟩ (.bool true) := ⟨_, rfl⟩
          have hc9 : ∀ (b k : Nat), b ≠ g → W9.cell? ⟨b, k, none⟩ = V9.cell? ⟨b, k, none⟩ := fun b k hb => by
            rw [hW9]
            exact cell_far9 (Below.heap_setCell _ _ _ b hb)
          have hqg : q5 ≠ g := fun e => by
            have h9 : M8.own g (.row 5) q5 := ⟨by omega, by rw [HQ5.out]; rfl⟩
            have h8 := HL9.out.dis .g (.row 5) q5 e h9
            cases h8
          have hig : w5.heap.size ≠ g := fun e => by
            have h9 := HG8.out.row
            rw [← e] at h9
            exact absurd (kind_eq h9 HR8.out) (by decide)
          rw [← hW9] at HRG HBG ⊢
          have hS10 : SmS g q5 (A * 2) w5.heap.size n9 (M8.rc 5) m1 ms W9 := ⟨HRG.out.lt (x := .g) rfl, by rw [← HR9.out]; exact HRG.out.cr, by
              have h9 := HRG.out.cl (i := 5) (by omega)
              have h8 := HL9.out.cl (i := 5) (by omega)
              exact h9.trans (h8.symm.trans hS9.s5), (hc9 _ _ hqg).trans hS9.x0, (hc9 _ _ hqg).trans hS9.x1, (hc9 _ _ hig).trans hS9.i0, (hc9 _ _ hig).trans hS9.i1⟩
          refine ⟨hS10, wpAnyH_done (by kernel_rfl) ?_ _⟩
          clear hS9 hS10 hc9 hqg hig hW9 hdr
          go_wp2_with fail
          go_roundg (gk - 1)
          case measure => have := HGK.out; omega
          case rel => exact ⟨A + 1, M8, M5, by have := HGK.out; omega, by omega, by rw [← HG9.out]; exact HRG.out, by rw [HP8.out]; exact HQ6.out, HN6.out, HBG.out⟩
end
end Go.Proofs.YtogcnfhmcpkdcaaGreat
