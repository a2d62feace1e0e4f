/-
  Contract of the reference's Read of a line.
  The law LineBytes: the walk.
-/
import Derived.Test.YtogcnfhmcpkdcaaLineM2
import Derived.Test.YtogcnfhmcpkdcaaLineM3
import Derived.Test.YtogcnfhmcpkdcaaRefTakeM
import Derived.Test.YtogcnfhmcpkdcaaLine6
import Derived.Test.YtogcnfhmcpkdcaaLineM1
import Derived.Test.YtogcnfhmcpkdcaaLineM4
import Derived.Test.YtogcnfhmcpkdcaaOpenActs
namespace Go.Proofs.Ytogcnfhmcpkdcaa
open Go.RowKit
set_option linter.unusedVariables false
set_option linter.unusedSimpArgs false

def mostL (j : Nat) : Nat := if j = 2 then 4096 else 1099511627776
def mostLA : Array Value := #[.int .u64 1099511627776, .int .u64 1099511627776, .int .u64 4096]
theorem mostLA_at (j : Nat) (hj : j < 3) : mostLA[j]? = some (.int .u64 (mostL j : Nat)) := by
  match j, hj with
  | 0, _ => rfl
  | 1, _ => rfl
  | 2, _ => rfl
def iv (n : Nat) : Value := .int .i64 (n : Int)
/-- what is left to be read behind 3 - f numbers -/
def restL : Nat → List Nat → List UInt8 → Res PLine
  | 0, vs, r => (getItems (vs.getD 2 0) r).bind fun its r' => .ok ⟨(vs.getD 0 0 : Nat), (vs.getD 1 0 : Nat), its⟩ r'
  | f + 1, vs, r => (getNum (mostL (2 - f)) r).bind fun v r' => restL f (vs ++ [v]) r'
theorem getL_rest (l : List UInt8) : getLine l = restL 3 [] l := rfl
theorem built_ask1 : Try.prog.built 58 [(0, .int .i64 1), (1, .int .u64 8192)] = some (askC 1 8192) := by kernel_rfl
theorem infoInt3 : (Try.prog.info? 3).map (fun i => (i.zero, i.size, i.bytes)) = some (some (.int .i64 0), 1, 8) := by kernel_rfl
abbrev zl : Array Value := #[.int .i64 0, .int .i64 0, .slice none 0 0]

/-- the first loop of Read, at a round's head -/
structure LoopL (l : List UInt8) (w wr : World) (j : Nat) (vs : List Nat) (r : List UInt8) (ba : Option Addr) (bc : Nat) (va : Option Addr) (vc : Nat) : Prop where
  le : j ≤ 3
  nl : vs.length = j
  rest : getLine l = restL (3 - j) vs r
  b : BsAt wr w.heap.size ba r.length bc r
  v : wr.ownsRow (w.heap.size + 2) 3 1 (.slice va j vc) j (vs.map iv)
  most : wr.heap[w.heap.size + 1]? = some (.cells mostLA 32 (0, 0))
  res : wr.heap[w.heap.size]? = some (.cells zl 88 (0, 0))
  bel : Below w.heap.size w wr
  sz : w.heap.size + 2 ≤ wr.heap.size
  bd : ∀ i n, vs[i]? = some n → n ≤ mostL i
theorem LoopL.below {l : List UInt8} {w wr w' : World} {j : Nat} {vs : List Nat} {r : List UInt8} {ba : Option Addr} {bc : Nat} {va : Option Addr} {vc : Nat} (h : LoopL l w wr j vs r ba bc va vc) (hb : Below wr.heap.size wr w') : LoopL l w w' j vs r ba bc va vc :=
  have hz := h.sz
  ⟨h.le, h.nl, h.rest, h.b.below hb (by omega), own_below' h.v hb, (hb.block _ (by omega)).trans h.most, (hb.block _ (by omega)).trans h.res, h.bel.trans (hb.mono (by omega)), Nat.le_trans h.sz hb.size, h.bd⟩
theorem LoopL.step {l : List UInt8} {w W5 w7 : World} {j : Nat} {vs : List Nat} {r : List UInt8} {ba : Option Addr} {bc : Nat} {va : Option Addr} {vc : Nat} (h : LoopL l w W5 j vs r ba bc va vc) (hj : j < 3) {v : Nat} (hv : v ≤ mostL j) {r' : List UInt8} {b2 : Option Addr} {c2 : Nat} {a6 : Option Addr} {c6 : Nat}
    (hrest : getLine l = restL (2 - j) (vs ++ [v]) r') (hb2 : BsAt W5 w.heap.size b2 r'.length c2 r') (hB : Below (w.heap.size + 2) W5 w7) (hown : w7.ownsRow (w.heap.size + 2) 3 1 (.slice a6 (j + 1) c6) (j + 1) ((vs ++ [v]).map iv)) : LoopL l w w7 (j + 1) (vs ++ [v]) r' b2 c2 a6 c6 := by
  have hz := h.sz
  have hs := hB.size
  have hnl := h.nl
  refine ⟨by omega, by simp [hnl], by rw [hrest]; congr 1; omega, hb2.below hB (by omega), hown, (hB.block _ (by omega)).trans h.most, (hB.block _ (by omega)).trans h.res, h.bel.trans (hB.mono (by omega)), by omega, fun i n hi => ?_⟩
  by_cases hij : i < vs.length
  · rw [List.getElem?_append_left hij] at hi
    exact h.bd i n hi
  · rw [List.getElem?_append_right (by omega)] at hi
    have : i - vs.length = 0 := by
      by_cases h0 : i - vs.length = 0
      · exact h0
      · rw [List.getElem?_eq_none (by simp; omega)] at hi; cases hi
    rw [this] at hi
    simp at hi
    subst hi
    rw [show i = j by omega]
    exact hv

theorem lineCells {W : World} {g : Nat} {d i : Int} {a : Option Addr} {k c : Nat} (h : W.heap[g]? = some (.cells #[.int .i64 d, .int .i64 i, .slice a k c] 88 (0, 0))) :
    W.cell? ⟨g, 0, none⟩ = some (.int .i64 d) ∧ W.cell? ⟨g, 1, none⟩ = some (.int .i64 i) ∧ W.cell? ⟨g, 2, none⟩ = some (.slice a k c) :=
  ⟨cell_of_row W g 0 _ _ _ h, cell_of_row W g 1 _ _ _ h, cell_of_row W g 2 _ _ _ h⟩

/-- the second loop of Read, at a round's head -/
structure LoopI (l : List UInt8) (w wL wr : World) (G n v0 v1 j : Nat) (r : List UInt8) (ba : Option Addr) (bc : Nat) (la : Option Addr) (lc : Nat) (ms : List MItem) : Prop where
  le : j ≤ n
  nl : ms.length = j
  rest : getLine l = (getItems (n - j) r).bind fun its r' => .ok ⟨(v0 : Nat), (v1 : Nat), ms.map MItem.it ++ its⟩ r'
  b : BsAt wr w.heap.size ba r.length bc r
  row : wr.heap[G]? = some (.cells #[.int .i64 v0, .int .i64 v1, .slice la ms.length lc] 88 (0, 0))
  own : wr.ownsRow (G + 1) 45 2 (.slice la ms.length lc) ms.length (cellsM ms)
  bs : ∀ m ∈ ms, m.Bs wr w.heap.size
  bel : Below G wL wr
  wl : w.heap.size ≤ G
  sz : G + 1 ≤ wr.heap.size
theorem LoopI.below {l : List UInt8} {w wL wr w' : World} {G n v0 v1 j : Nat} {r : List UInt8} {ba : Option Addr} {bc : Nat} {la : Option Addr} {lc : Nat} {ms : List MItem} (h : LoopI l w wL wr G n v0 v1 j r ba bc la lc ms) (hb : Below wr.heap.size wr w') : LoopI l w wL w' G n v0 v1 j r ba bc la lc ms :=
  have hz := h.sz
  have hw := h.wl
  ⟨h.le, h.nl, h.rest, h.b.below hb (by omega), (hb.block _ (by omega)).trans h.row, own_below' h.own hb, fun m hm => (h.bs m hm).below hb (by omega), h.bel.trans (hb.mono (by omega)), hw, Nat.le_trans hz hb.size⟩

/-- what the region that makes the line reads -/
structure VS (vb vo v0 v1 : Nat) (W : World) : Prop where
  v0 : W.cell? ⟨vb, vo, none⟩ = some (.int .i64 v0)
  v1 : W.cell? ⟨vb, vo + 1, none⟩ = some (.int .i64 v1)
theorem VS.keep {vb vo v0 v1 : Nat} {W W' : World} (h : VS vb vo v0 v1 W) {N : Nat} (hb : Below N W W') (h1 : vb < N) : VS vb vo v0 v1 W' :=
  ⟨(hb.cell (p := ⟨vb, _, none⟩) h1).trans h.v0, (hb.cell (p := ⟨vb, _, none⟩) h1).trans h.v1⟩

/-- what the reference's Read comes to -/
def RReadTo (o : Int × Option PLine) (w : World) (e : Ending) (w' : World) : Prop :=
  Below w.heap.size w w' ∧ match o.2 with
    | none => e = .returned (.tuple #[.agg zl, .int .i64 o.1])
    | some v => ∃ a c ms, e = .returned (.tuple #[rv v a ms.length c, .int .i64 o.1]) ∧ RAt w' w'.heap.size v a c ms

set_option maxRecDepth 100000 in
set_option maxHeartbeats 4000000 in
theorem r17Read (l : List UInt8) (a : Option Addr) (n c : Nat) (w : World) (h : BsAt w w.heap.size a n c l) :
    Calls Try.prog 68 #[.slice a n c] w (RReadTo (outL (getLine l)) w) := by
  obtain ⟨i0, hi, hz0, hz1, hz2⟩ := info_parts infoInt3
  obtain ⟨O, hO⟩ : ∃ O, O = outL (getLine l) := ⟨_, rfl⟩
  rw [← hO]
  have HO := Lib.hid hO
  have hl := h.hlen
  subst hl
  have H := Lib.hid h
  clear hO h
  go_enter Try.func68, Try.ntmps68
  go_wp2_with fail
  obtain ⟨W0, hW0⟩ : ∃ W0, W0 = (w.alloc (.cells zl 88)).alloc (.cells mostLA 32) := ⟨_, rfl⟩
  refine (show Code.wp _ _ _ _ ((w.alloc (.cells zl 88)).alloc (.cells mostLA 32)) from ?_)
  rw [← hW0]
  have hb0 : Below w.heap.size w W0 := by rw [hW0]; exact ((Below.refl _ _).alloc (Nat.le_refl _) _).alloc (by simp) _
  have hI0 : LoopL l w W0 0 [] l a c none 0 := by
    refine ⟨by omega, rfl, getL_rest l, H.out.below hb0 (Nat.le_refl _), ⟨rfl, .inl ⟨rfl, rfl⟩⟩, ?_, ?_, hb0, by rw [hW0]; simp, fun i n h9 => by simp at h9⟩
    · rw [hW0]
      have h9 := heap_alloc_new (w.alloc (.cells zl 88)) (.cells mostLA 32)
      simpa using h9
    · rw [hW0]
      exact (((Below.refl _ _).alloc (Nat.le_refl (w.alloc (.cells zl 88)).heap.size) _).block _ (by simp)).trans (heap_alloc_new w _)
  have HI0 := Lib.hid hI0
  clear hI0 hb0 hW0
  go_loopw [0, 5, 6] (fun bvv vv iv wr => ∃ (j : Nat) (vs : List Nat) (r : List UInt8) (ba va : Option Addr) (bc vc : Nat), iv = .int .i64 j ∧ bvv = .slice ba r.length bc ∧ vv = .slice va j vc ∧ LoopL l w wr j vs r ba bc va vc)
    (fun _ _ iv _ => 3 - (intOf iv).toNat)
  case atStart => exact ⟨0, [], l, a, none, c, 0, rfl, rfl, rfl, HI0.out⟩
  case round =>
    obtain ⟨j, vs, r, ba, va, bc, vc, rfl, rfl, rfl, hI⟩ := hrel
    have HI := Lib.hid hI
    have hj3 := hI.le
    have hnl := hI.nl
    have hszr := hI.sz
    have hmost := hI.most
    clear hI
    by_cases hlt : j < 3
    · obtain ⟨f, hf⟩ : ∃ f, 3 - j = f + 1 := ⟨2 - j, by omega⟩
      have hrst := HI.out.rest
      rw [hf] at hrst
      have hj5 : 2 - f = j := by omega
      have HRST := Lib.hid (show getLine l = (getNum (mostL j) r).bind fun v r' => restL f (vs ++ [v]) r' by rw [hrst, restL, hj5])
      have hcm : wr.cell? ⟨w.heap.size + 1, j, none⟩ = some (.int .u64 (mostL j : Nat)) := by rw [cell_of_row _ _ _ _ _ _ hmost]; exact mostLA_at j hlt
      have HF := Lib.hid hf
      have tj : decide ((j : Int) < 3) = true := by simp; omega
      have hk0 : (0 : Int) ≤ (j : Int) := by omega
      have hk1 : (j : Int) < 3 := by omega
      clear hrst hf hj5 hmost hnl
      go_wp2_with (refine wpList_build_l rfl 58 [(1, .tmp 21)] rfl [(1, .int .u64 ((mostL j) : Nat))] rfl (askC 0 (mostL j)) (built_ask _) ?_)
      refine (refTake 0 r ba r.length bc askF (mostL j) askF_len _ w.heap.size (by omega) HI.out.b).mono ?_
      rintro e w4 ⟨gs, rfl, hgs, hb4⟩
      have hs4 := hb4.size
      obtain ⟨hz4, hone4⟩ := hgs.parts (takeP_d _ _ _)
      have HGS := Lib.hid hgs
      have HZ4 := Lib.hid hz4
      have HONE4 := Lib.hid hone4
      have HI4 := Lib.hid (HI.out.below hb4)
      clear hgs hz4 hone4 hb4
      cases hg : getNum (mostL j) r with
      | err x =>
        have hx : x ≠ 0 := by have := getNum_errs hg; omega
        have hG := HGS.out
        rw [takeP_num_err hg] at hG
        have hgl : getLine l = .err x := by rw [HRST.out, hg]; rfl
        have HBW := Lib.hid HI4.out.bel
        have HRES := Lib.hid HI4.out.res
        have hO : O = (x, none) := by rw [HO.out, hgl]; rfl
        subst hO
        have HG := Lib.hid hG
        have t3 : (x != 0) = true := by simpa using hx
        clear hG hg HGS hx hgl
        go_wp2_with (refine wpList_store_new rfl 61 (.tmp 7) (.tmp 23) rfl gs rfl rfl 61 _ (by rw [HZ4.out]; exact infoGot) HZ4.out.symm HONE4.out ?_; intro W5 hrow5 hb5 hs5; obtain ⟨a1, c1, a2, c2, hga, -, -, -, k3, k4⟩ := HG.out.lay (by simp [zeros32]) (by omega) hrow5 hb5; have HB5 := Lib.hid hb5; clear hga hrow5 hb5 k4)
        have hd := (HB5.out.block w.heap.size (by omega)).trans HRES.out
        have HD := Lib.hid hd
        have hS0 : W5.drew.cell? ⟨w4.heap.size, 35, none⟩ = some (.int .i64 x) := k3
        clear hd
        refine wp_region_any (by kernel_rfl) ?_
        refine wpAny_of_held (S := fun w' => w'.cell? ⟨w4.heap.size, 35, none⟩ = some (.int .i64 x)) _ _ _ _ ?_
        refine heldTake 0 27 (v := .agg zl) rfl rfl (by kernel_rfl) (by kernel_rfl) (by kernel_rfl) (fun _ _ _ h => h) hS0 (.inl ⟨by rfl, by intro w' hS; go_simp; (try (all_goals rfl))⟩) ?_
        simp only [List.set_cons_zero, List.set_cons_succ]
        refine heldTake 1 28 rfl rfl (by kernel_rfl) (by kernel_rfl) (by kernel_rfl) (fun _ _ _ h => h) hS0 (.inl ⟨by rfl, by intro w' hS; (try dsimp only at hS); go_simp; (try rfl)⟩) ?_
        simp only [List.set_cons_zero, List.set_cons_succ]
        refine heldTake 2 29 rfl rfl (by kernel_rfl) (by kernel_rfl) (by kernel_rfl) (fun _ _ _ h => h) hS0 (.inl ⟨by rfl, by intro w' hS; (try dsimp only at hS); go_simp; (try rfl)⟩) ?_
        simp only [List.set_cons_zero, List.set_cons_succ]
        refine heldOne 3 (by kernel_rfl) rfl (by rfl) ?_
        refine wp_store_row 88 (.tmp 2) (.tmp 27) rfl w.heap.size zl rfl rfl 88 _ HD.out infoRLine rfl (by simp [Value.oneCell']) ?_
        have hS1 : (W5.drew.setRow w.heap.size zl).cell? ⟨w4.heap.size, 35, none⟩ = some (.int .i64 x) := (World.cell?_of_block (a := ⟨w4.heap.size, 35, none⟩) (setRow_other _ _ _ _ (by show w4.heap.size ≠ w.heap.size; omega))).trans hS0
        refine ⟨hS1, ?_⟩
        refine heldTake 4 3 rfl rfl (by kernel_rfl) (by kernel_rfl) (by kernel_rfl) (fun _ _ _ h => h) hS1 (.inl ⟨by rfl, by intro w' hS; (try dsimp only at hS); go_simp; (try rfl)⟩) ?_
        simp only [List.set_cons_zero, List.set_cons_succ]
        refine wpAnyH_done (by kernel_rfl) ?_ _
        have HROWF := Lib.hid (setRow_heap W5.drew w.heap.size _ zl 88 _ HD.out)
        have HBF := Lib.hid (HBW.out.trans ((HB5.out.mono (show w.heap.size ≤ w4.heap.size by omega)).trans ((Below.refl _ W5).drew.trans (below_setRow W5.drew zl (Nat.le_refl _)))))
        clear k3 hS0 hS1
        go_wp2
        (try rw [Exit.noGoto_ret])
        refine bodyPost_ret (results_row_tmp rfl _ _ w.heap.size 88 _ (0, 0) _ rfl HROWF.out Try.underlying88 rfl infoRLine) rfl ⟨HBF.out, rfl⟩
      | ok v r' =>
        have HV := Lib.hid (getNum_most hg)
        have hG := HGS.out
        rw [takeP_num_ok hg] at hG
        have HGL := Lib.hid (show getLine l = restL f (vs ++ [v]) r' by rw [HRST.out, hg]; rfl)
        have HG := Lib.hid hG
        have hvm : v ≤ 1099511627776 := by have := HV.out; unfold mostL at this; split at this <;> omega
        have wv : IntKind.i64.wrap (v : Int) = v := IntWalk.i64_in _ (by omega)
        clear hG hg HGS hvm
        go_wp2_with (first
          | (refine wpList_store_new rfl 61 (.tmp 7) (.tmp 23) rfl gs rfl rfl 61 _ (by rw [HZ4.out]; exact infoGot) HZ4.out.symm HONE4.out ?_; intro W5 hrow5 hb5 hs5; obtain ⟨a1, c1, a2, c2, hga, -, k1, -, k3, k4⟩ := HG.out.lay (by simp [zeros32]) (by omega) hrow5 hb5; have HB5 := Lib.hid hb5; have HLF := Lib.hid hga.lf; have HOV := Lib.hid ((own_below' HI4.out.v hb5).alloc (.cells #[.int .i64 (v : Int)] 3)); have HI5 := Lib.hid (HI4.out.below hb5); have hs5' : w4.heap.size + 1 ≤ W5.heap.size := (by omega); clear hga hrow5 hb5 hs5)
          | (at_builtin; go_must (refine wpList_append_sl _ rfl (.tmp 32) (.tmp 37) 120 rfl (w.heap.size + 2) 3 i0 (.int .i64 0) 1 8 Try.underlying120 hi hz0 hz1 hz2 rfl (by decide) _ _ _ rfl HOV.out (W5.heap.size + 1) (some ⟨W5.heap.size, 0, none⟩) 1 1 [.int .i64 (v : Int)] rfl (slAt_one W5 _ _) (one_oneCell rfl) (by unfold maxLen; omega) (by omega) (by simp; omega) ?_); intro a6 c6 w6 hown6 hgrow6 hat6; have HOWN6 := Lib.hid hown6; have HGR6 := Lib.hid hgrow6; clear hown6 hgrow6 hat6))
        have hs6 := HGR6.out.size
        simp only [World.size_alloc] at hs6
        have hB6 : Below (w.heap.size + 2) W5 w6 := ((Below.refl _ W5).alloc (show w.heap.size + 2 ≤ W5.heap.size by omega) (.cells #[.int .i64 (v : Int)] 3)).grown HGR6.out (by simp; omega) (fun k hk => by have h9 := (own_lt HI4.out.v hk).1; omega)
        have hf5 : 2 - j = f := by have := HF.out; omega
        have HIN := Lib.hid (HI5.out.step hlt HV.out (by rw [hf5]; exact HGL.out) HLF.out hB6 (by rw [List.map_append]; exact HOWN6.out))
        clear hB6 k1 k3 k4
        go_roundw
        case rel => exact ⟨j + 1, vs ++ [v], r', a2, a6, c2, c6, by go_num, rfl, rfl, HIN.out⟩
        case measure => simp [intOf]; omega
    · have hj : j = 3 := by omega
      subst hj
      have tj : decide (((3 : Nat) : Int) < 3) = false := by simp
      obtain ⟨v0, v1, v2, rfl⟩ : ∃ a b c, vs = [a, b, c] := by
        match vs, hnl with
        | [a, b, c], _ => exact ⟨a, b, c, rfl⟩
      have hge : getLine l = (getItems v2 r).bind fun its r' => .ok ⟨(v0 : Nat), (v1 : Nat), its⟩ r' := by rw [HI.out.rest]; rfl
      have b0 : v0 ≤ 1099511627776 := HI.out.bd 0 v0 rfl
      have b1 : v1 ≤ 1099511627776 := HI.out.bd 1 v1 rfl
      have b2 : v2 ≤ 4096 := HI.out.bd 2 v2 rfl
      obtain ⟨a9, c9, e9, hs9⟩ := SlAt.ofOwns HI.out.v
      injection e9 with e10 _ e12
      subst e10; subst e12
      obtain ⟨vb, vo, rfl, hvb, hvc⟩ := hs9.hat (by simp)
      have y0 : wr.cell? ⟨vb, vo, none⟩ = some (.int .i64 v0) := hvc 0 (by simp)
      have y1 : wr.cell? ⟨vb, vo + 1, none⟩ = some (.int .i64 v1) := hvc 1 (by simp)
      have y2 : wr.cell? ⟨vb, vo + 2, none⟩ = some (.int .i64 v2) := hvc 2 (by simp)
      have HLS := Lib.hid (show VS vb vo v0 v1 wr from ⟨y0, y1⟩)
      have Y2 := Lib.hid y2
      have HGE := Lib.hid hge
      clear hvc hs9 hmost hge y0 y1 y2
      go_wp2_with fail
      refine wp_region_any (by kernel_rfl) ?_
      refine wpAny_of_held (S := VS vb vo v0 v1) _ _ _ _ ?_
      have hS0 : VS vb vo v0 v1 wr.drew := ⟨HLS.out.v0, HLS.out.v1⟩
      refine heldTake 0 39 rfl rfl (by kernel_rfl) (by kernel_rfl) (by kernel_rfl) (fun _ _ _ h => h) hS0 (.inl ⟨by rfl, by intro w' hS; obtain ⟨s1, s2⟩ := hS; go_simp; (try rfl)⟩) ?_
      simp only [List.set_cons_zero, List.set_cons_succ]
      refine heldTake 1 40 rfl rfl (by kernel_rfl) (by kernel_rfl) (by kernel_rfl) (fun _ _ _ h => h) hS0 (.inl ⟨by rfl, by intro w' hS; obtain ⟨s1, s2⟩ := hS; go_simp; (try rfl)⟩) ?_
      simp only [List.set_cons_zero, List.set_cons_succ]
      refine heldTake 2 41 rfl rfl (by kernel_rfl) (by kernel_rfl) (by kernel_rfl) (fun _ _ _ h => h) hS0 (.inl ⟨by rfl, by intro w' hS; obtain ⟨s1, s2⟩ := hS; go_simp; (try rfl)⟩) ?_
      simp only [List.set_cons_zero, List.set_cons_succ]
      refine heldTake 3 42 rfl rfl (by kernel_rfl) (by kernel_rfl) (by kernel_rfl) (fun _ _ _ h => h) hS0 (.inl ⟨by rfl, by intro w' hS; obtain ⟨s1, s2⟩ := hS; go_simp; (try rfl)⟩) ?_
      simp only [List.set_cons_zero, List.set_cons_succ]
      refine heldTake 4 43 rfl rfl (by kernel_rfl) (by kernel_rfl) (by kernel_rfl) (fun _ _ _ h => h) hS0 (.inl ⟨by rfl, by intro w' hS; obtain ⟨s1, s2⟩ := hS; go_simp; (try rfl)⟩) ?_
      simp only [List.set_cons_zero, List.set_cons_succ]
      refine heldTake 5 44 rfl rfl (by kernel_rfl) (by kernel_rfl) (by kernel_rfl) (fun _ _ _ h => h) hS0 (.inl ⟨by rfl, by intro w' hS; obtain ⟨s1, s2⟩ := hS; go_simp; (try rfl)⟩) ?_
      simp only [List.set_cons_zero, List.set_cons_succ]
      refine heldTake 6 45 (v := .agg #[.int .i64 v0, .int .i64 v1, .slice none 0 0]) rfl rfl (by kernel_rfl) (by kernel_rfl) (by kernel_rfl) (fun _ _ _ h => h) hS0 (.inl ⟨by rfl, by intro w' hS; clear hS; go_simp; (try (all_goals rfl))⟩) ?_
      simp only [List.set_cons_zero, List.set_cons_succ]
      clear hS0
      refine heldOne 7 (by kernel_rfl) rfl (by rfl) ?_
      go_simp
      obtain ⟨U, hU⟩ : ∃ U, U = (wr.alloc (.cells #[.int .i64 0, .int .i64 0, .slice none 0 0] 88)).drew := ⟨_, rfl⟩
      rw [← hU]
      have hbU : Below wr.heap.size wr U := by rw [hU]; exact ((Below.refl _ _).alloc (Nat.le_refl _) _).drew
      have hrU : U.heap[wr.heap.size]? = some (.cells #[.int .i64 0, .int .i64 0, .slice none 0 0] 88 (0, 0)) := by rw [hU]; exact heap_alloc_new wr _
      have hsU : U.heap.size = wr.heap.size + 1 := by rw [hU]; simp
      have hSU := HLS.out.keep hbU hvb
      refine ⟨hSU, ?_⟩
      clear hSU hU
      refine heldOne 8 (by kernel_rfl) rfl (by rfl) ?_
      refine wp_store_row 88 (.tmp 8) (.tmp 45) rfl wr.heap.size #[.int .i64 v0, .int .i64 v1, .slice none 0 0] rfl rfl 88 _ hrU infoRLine rfl (by simp [Value.oneCell']) ?_
      obtain ⟨wL, hwL⟩ : ∃ wL, wL = U.setRow wr.heap.size #[.int .i64 v0, .int .i64 v1, .slice none 0 0] := ⟨_, rfl⟩
      rw [← hwL]
      have hbL : Below wr.heap.size wr wL := by rw [hwL]; exact hbU.trans (below_setRow U _ (Nat.le_refl _))
      have hrL : wL.heap[wr.heap.size]? = some (.cells #[.int .i64 v0, .int .i64 v1, .slice none 0 0] 88 (0, 0)) := by rw [hwL]; exact setRow_heap U _ _ _ _ _ hrU
      have hsL : wr.heap.size + 1 ≤ wL.heap.size := by rw [hwL]; simp; omega
      have hSL := HLS.out.keep hbL hvb
      refine ⟨hSL, wpAnyH_done (by kernel_rfl) ?_ _⟩
      have Y2L := Lib.hid ((hbL.cell (p := ⟨vb, vo + 2, none⟩) hvb).trans Y2.out)
      have HRL := Lib.hid ((hbL.block w.heap.size (by omega)).trans HI.out.res)
      have HBL := Lib.hid (HI.out.bel.trans (hbL.mono (by omega)))
      have HIL := Lib.hid (show LoopI l w wL wL wr.heap.size v2 v0 v1 0 r ba bc none 0 [] from
        ⟨by omega, rfl, by rw [HGE.out]; rfl, HI.out.b.below hbL (by omega), hrL, ⟨rfl, .inl ⟨rfl, rfl⟩⟩, by simp, Below.refl _ _, by omega, hsL⟩)
      clear hbU hrU hsU hwL hbL hrL hSL hnl hlt
      go_wp2_with fail
      obtain ⟨wo, rfl⟩ : ∃ wo : World, wo = wr := ⟨_, rfl⟩
      obtain ⟨j0, gi, gz0, gz1, gz2⟩ := info_parts infoItem3
      go_loopw [0, 9] (fun bvv kv wr => ∃ (j : Nat) (r : List UInt8) (ba : Option Addr) (bc : Nat) (la : Option Addr) (lc : Nat) (ms : List MItem), kv = .int .i64 j ∧ bvv = .slice ba r.length bc ∧ LoopI l w wL wr wo.heap.size v2 v0 v1 j r ba bc la lc ms) (fun _ kv _ => v2 - (intOf kv).toNat)
      case atStart => exact ⟨0, r, ba, bc, none, 0, [], rfl, rfl, HIL.out⟩
      case round =>
        obtain ⟨j, r, ba, bc, la, lc, ms, rfl, rfl, hI2⟩ := hrel
        have HI2 := Lib.hid hI2
        have hsz2 := hI2.sz
        have hjn := hI2.le
        have y2 : wr.cell? ⟨vb, vo + 2, none⟩ = some (.int .i64 v2) := (hI2.bel.cell (p := ⟨vb, vo + 2, none⟩) hvb).trans Y2L.out
        have hml : ms.length ≤ 4096 := by have := hI2.nl; omega
        clear hI2
        by_cases hjl : j < v2
        · have tj : decide ((j : Int) < (v2 : Int)) = true := by simpa using hjl
          have HRST := Lib.hid (show getLine l = (getNum 1099511627776 r).bind fun t r1 => (getText 8192 r1).bind fun b r2 => (getItems (v2 - (j + 1)) r2).bind fun its r' => .ok ⟨(v0 : Nat), (v1 : Nat), ms.map MItem.it ++ ((((t : Nat) : Int), b) :: its)⟩ r' from by
            rw [HI2.out.rest, show v2 - j = (v2 - (j + 1)) + 1 by omega, getItems]
            cases getNum 1099511627776 r with
            | err x => rfl
            | ok t r1 =>
              simp only [Res.bind_ok]
              cases getText 8192 r1 with
              | err x => rfl
              | ok b r2 =>
                simp only [Res.bind_ok]
                cases getItems (v2 - (j + 1)) r2 <;> rfl)
          go_wp2_with (refine wpList_build_l rfl 58 [(1, .const (.int .u64 1099511627776))] rfl [(1, .int .u64 1099511627776)] rfl (askC 0 1099511627776) (built_ask 1099511627776) ?_)
          refine (refTake 0 r ba r.length bc askF 1099511627776 askF_len _ w.heap.size (by have := HI2.out.wl; omega) HI2.out.b).mono ?_
          rintro e w4 ⟨gs, rfl, hgs, hb4⟩
          have hs4 := hb4.size
          have hwl := HI2.out.wl
          obtain ⟨hz4, hone4⟩ := hgs.parts (takeP_d _ _ _)
          have HGS := Lib.hid hgs
          have HZ4 := Lib.hid hz4
          have HONE4 := Lib.hid hone4
          have HI4 := Lib.hid (HI2.out.below hb4)
          have HBW := Lib.hid (HBL.out.trans (HI4.out.bel.mono (by omega)))
          have HRES := Lib.hid ((HI4.out.bel.block w.heap.size (by omega)).trans HRL.out)
          clear hgs hz4 hone4 hb4 y2
          cases hg : getNum 1099511627776 r with
          | err x =>
            have hx : x ≠ 0 := by have := getNum_errs hg; omega
            have hG := HGS.out
            rw [takeP_num_err hg] at hG
            have hgl : getLine l = .err x := by rw [HRST.out, hg]; rfl
            have hO : O = (x, none) := by rw [HO.out, hgl]; rfl
            subst hO
            have HG := Lib.hid hG
            have t3 : (x != 0) = true := by simpa using hx
            clear hG hg HGS hx hgl
            go_wp2_with (refine wpList_store_new rfl 61 (.tmp 10) (.tmp 55) rfl gs rfl rfl 61 _ (by rw [HZ4.out]; exact infoGot) HZ4.out.symm HONE4.out ?_; intro W5 hrow5 hb5 hs5; obtain ⟨a1, c1, a2, c2, hga, -, -, -, k3, k4⟩ := HG.out.lay (by simp [zeros32]) (by omega) hrow5 hb5; have HB5 := Lib.hid hb5; clear hga hrow5 hb5 k4)
            have hd := (HB5.out.block w.heap.size (by omega)).trans HRES.out
            have HD := Lib.hid hd
            have hS0 : W5.drew.cell? ⟨w4.heap.size, 35, none⟩ = some (.int .i64 x) := k3
            clear hd
            refine wp_region_any (by kernel_rfl) ?_
            refine wpAny_of_held (S := fun w' => w'.cell? ⟨w4.heap.size, 35, none⟩ = some (.int .i64 x)) _ _ _ _ ?_
            refine heldTake 0 59 (v := .agg zl) rfl rfl (by kernel_rfl) (by kernel_rfl) (by kernel_rfl) (fun _ _ _ h => h) hS0 (.inl ⟨by rfl, by intro w' hS; go_simp; (try (all_goals rfl))⟩) ?_
            simp only [List.set_cons_zero, List.set_cons_succ]
            refine heldTake 1 60 rfl rfl (by kernel_rfl) (by kernel_rfl) (by kernel_rfl) (fun _ _ _ h => h) hS0 (.inl ⟨by rfl, by intro w' hS; (try dsimp only at hS); go_simp; (try rfl)⟩) ?_
            simp only [List.set_cons_zero, List.set_cons_succ]
            refine heldTake 2 61 rfl rfl (by kernel_rfl) (by kernel_rfl) (by kernel_rfl) (fun _ _ _ h => h) hS0 (.inl ⟨by rfl, by intro w' hS; (try dsimp only at hS); go_simp; (try rfl)⟩) ?_
            simp only [List.set_cons_zero, List.set_cons_succ]
            refine heldOne 3 (by kernel_rfl) rfl (by rfl) ?_
            refine wp_store_row 88 (.tmp 2) (.tmp 59) rfl w.heap.size zl rfl rfl 88 _ HD.out infoRLine rfl (by simp [Value.oneCell']) ?_
            have hS1 : (W5.drew.setRow w.heap.size zl).cell? ⟨w4.heap.size, 35, none⟩ = some (.int .i64 x) := (World.cell?_of_block (a := ⟨w4.heap.size, 35, none⟩) (setRow_other _ _ _ _ (by show w4.heap.size ≠ w.heap.size; omega))).trans hS0
            refine ⟨hS1, ?_⟩
            refine heldTake 4 3 rfl rfl (by kernel_rfl) (by kernel_rfl) (by kernel_rfl) (fun _ _ _ h => h) hS1 (.inl ⟨by rfl, by intro w' hS; (try dsimp only at hS); go_simp; (try rfl)⟩) ?_
            simp only [List.set_cons_zero, List.set_cons_succ]
            refine wpAnyH_done (by kernel_rfl) ?_ _
            have HROWF := Lib.hid (setRow_heap W5.drew w.heap.size _ zl 88 _ HD.out)
            have HBF := Lib.hid (HBW.out.trans ((HB5.out.mono (show w.heap.size ≤ w4.heap.size by omega)).trans ((Below.refl _ W5).drew.trans (below_setRow W5.drew zl (Nat.le_refl _)))))
            clear k3 hS0 hS1
            go_wp2
            (try rw [Exit.noGoto_ret])
            refine bodyPost_ret (results_row_tmp rfl _ _ w.heap.size 88 _ (0, 0) _ rfl HROWF.out Try.underlying88 rfl infoRLine) rfl ⟨HBF.out, rfl⟩
          | ok t r1 =>
            have ht := getNum_most hg
            have hG := HGS.out
            rw [takeP_num_ok hg] at hG
            have HRST1 := Lib.hid (show getLine l = (getText 8192 r1).bind fun b r2 => (getItems (v2 - (j + 1)) r2).bind fun its r' => .ok ⟨(v0 : Nat), (v1 : Nat), ms.map MItem.it ++ ((((t : Nat) : Int), b) :: its)⟩ r' from by rw [HRST.out, hg]; rfl)
            have HG := Lib.hid hG
            have wt : IntKind.i64.wrap (t : Int) = t := IntWalk.i64_in _ (by omega)
            clear hG hg
            go_wp2_with (first
              | (refine wpList_store_new rfl 61 (.tmp 10) (.tmp 55) rfl gs rfl rfl 61 _ (by rw [HZ4.out]; exact infoGot) HZ4.out.symm HONE4.out ?_; intro W5 hrow5 hb5 hs5; obtain ⟨a1, c1, a2, c2, hga, -, k1, -, k3, k4⟩ := HG.out.lay (by simp [zeros32]) (by omega) hrow5 hb5; have HB5 := Lib.hid hb5; have HLF := Lib.hid hga.lf; have K1 := Lib.hid k1; have HI5 := Lib.hid (HI4.out.below hb5); clear hga hrow5 hb5)
              | (refine wpList_build_l rfl 58 [(0, .const (.int .i64 1)), (1, .const (.int .u64 8192))] rfl [(0, .int .i64 1), (1, .int .u64 8192)] rfl (askC 1 8192) built_ask1 ?_))
            refine (refTake 1 r1 a2 r1.length c2 askF 8192 askF_len _ w.heap.size (by have := HI5.out.sz; omega) HLF.out).mono ?_
            rintro e w4b ⟨gsb, rfl, hgs, hb7⟩
            have hs7 := hb7.size
            have hg5 : w4.heap.size < W5.heap.size := by omega
            clear hs5
            obtain ⟨hz4, hone4⟩ := hgs.parts (takeP_d _ _ _)
            have HGSb := Lib.hid hgs
            have HZ4b := Lib.hid hz4
            have HONE4b := Lib.hid hone4
            have HI7 := Lib.hid (HI5.out.below hb7)
            have HBWb := Lib.hid (HBL.out.trans (HI7.out.bel.mono (by omega)))
            have HRESb := Lib.hid ((HI7.out.bel.block w.heap.size (by omega)).trans HRL.out)
            have HK7 := Lib.hid ((hb7.cell (p := ⟨w4.heap.size, 1, none⟩) hg5).trans K1.out)
            clear hgs hz4 hone4 hb7 k1 k3 k4
            cases hg : getText 8192 r1 with
            | err x =>
              have hx : x ≠ 0 := by have := getText_errs hg; omega
              have hG := HGSb.out
              rw [takeP_text_err hg] at hG
              have hgl : getLine l = .err x := by rw [HRST1.out, hg]; rfl
              have hO : O = (x, none) := by rw [HO.out, hgl]; rfl
              subst hO
              have HG := Lib.hid hG
              have t3 : (x != 0) = true := by simpa using hx
              clear hG hg HGSb hx hgl
              go_wp2_with (refine wpList_store_new rfl 61 (.tmp 11) (.tmp 65) rfl gsb rfl rfl 61 _ (by rw [HZ4b.out]; exact infoGot) HZ4b.out.symm HONE4b.out ?_; intro W5 hrow5 hb5 hs5; obtain ⟨a1, c1, a2, c2, hga, -, -, -, k3, k4⟩ := HG.out.lay (by simp [zeros32]) (by omega) hrow5 hb5; have HB5 := Lib.hid hb5; clear hga hrow5 hb5 k4)
              have hd := (HB5.out.block w.heap.size (by omega)).trans HRESb.out
              have HD := Lib.hid hd
              have hS0 : W5.drew.cell? ⟨w4b.heap.size, 35, none⟩ = some (.int .i64 x) := k3
              clear hd
              refine wp_region_any (by kernel_rfl) ?_
              refine wpAny_of_held (S := fun w' => w'.cell? ⟨w4b.heap.size, 35, none⟩ = some (.int .i64 x)) _ _ _ _ ?_
              refine heldTake 0 69 (v := .agg zl) rfl rfl (by kernel_rfl) (by kernel_rfl) (by kernel_rfl) (fun _ _ _ h => h) hS0 (.inl ⟨by rfl, by intro w' hS; go_simp; (try (all_goals rfl))⟩) ?_
              simp only [List.set_cons_zero, List.set_cons_succ]
              refine heldTake 1 70 rfl rfl (by kernel_rfl) (by kernel_rfl) (by kernel_rfl) (fun _ _ _ h => h) hS0 (.inl ⟨by rfl, by intro w' hS; (try dsimp only at hS); go_simp; (try rfl)⟩) ?_
              simp only [List.set_cons_zero, List.set_cons_succ]
              refine heldTake 2 71 rfl rfl (by kernel_rfl) (by kernel_rfl) (by kernel_rfl) (fun _ _ _ h => h) hS0 (.inl ⟨by rfl, by intro w' hS; (try dsimp only at hS); go_simp; (try rfl)⟩) ?_
              simp only [List.set_cons_zero, List.set_cons_succ]
              refine heldOne 3 (by kernel_rfl) rfl (by rfl) ?_
              refine wp_store_row 88 (.tmp 2) (.tmp 69) rfl w.heap.size zl rfl rfl 88 _ HD.out infoRLine rfl (by simp [Value.oneCell']) ?_
              have hS1 : (W5.drew.setRow w.heap.size zl).cell? ⟨w4b.heap.size, 35, none⟩ = some (.int .i64 x) := (World.cell?_of_block (a := ⟨w4b.heap.size, 35, none⟩) (setRow_other _ _ _ _ (by show w4b.heap.size ≠ w.heap.size; omega))).trans hS0
              refine ⟨hS1, ?_⟩
              refine heldTake 4 3 rfl rfl (by kernel_rfl) (by kernel_rfl) (by kernel_rfl) (fun _ _ _ h => h) hS1 (.inl ⟨by rfl, by intro w' hS; (try dsimp only at hS); go_simp; (try rfl)⟩) ?_
              simp only [List.set_cons_zero, List.set_cons_succ]
              refine wpAnyH_done (by kernel_rfl) ?_ _
              have HROWF := Lib.hid (setRow_heap W5.drew w.heap.size _ zl 88 _ HD.out)
              have HBF := Lib.hid (HBWb.out.trans ((HB5.out.mono (show w.heap.size ≤ w4b.heap.size by omega)).trans ((Below.refl _ W5).drew.trans (below_setRow W5.drew zl (Nat.le_refl _)))))
              clear k3 hS0 hS1
              go_wp2
              (try rw [Exit.noGoto_ret])
              refine bodyPost_ret (results_row_tmp rfl _ _ w.heap.size 88 _ (0, 0) _ rfl HROWF.out Try.underlying88 rfl infoRLine) rfl ⟨HBF.out, rfl⟩
            | ok tx r2 =>
              have htx : tx.length ≤ 8192 := (text_put hg).2
              have hG := HGSb.out
              rw [takeP_text_ok hg] at hG
              have HRST2 := Lib.hid (show getLine l = (getItems (v2 - (j + 1)) r2).bind fun its r' => .ok ⟨(v0 : Nat), (v1 : Nat), ms.map MItem.it ++ ((((t : Nat) : Int), tx) :: its)⟩ r' from by rw [HRST1.out, hg]; rfl)
              have HG2 := Lib.hid hG
              clear hG hg
              go_wp2_with (first
                | (refine wpList_store_new rfl 61 (.tmp 11) (.tmp 65) rfl gsb rfl rfl 61 _ (by rw [HZ4b.out]; exact infoGot) HZ4b.out.symm HONE4b.out ?_; intro W8 hrow8 hb8 hs8; obtain ⟨a3, c3, a4, c4, hga, -, -, k2, k3, k4⟩ := HG2.out.lay (by simp [zeros32]) (by omega) hrow8 hb8; have HB8 := Lib.hid hb8; have HLF8 := Lib.hid hga.lf; have HTX8 := Lib.hid hga.tx; have HI8 := Lib.hid (HI7.out.below hb8); have k1 := (hb8.cell (p := ⟨w4.heap.size, 1, none⟩) (by show w4.heap.size < _; omega)).trans HK7.out; obtain ⟨d0, d1, d2⟩ := lineCells HI8.out.row; have HOV := Lib.hid ((own_below' HI8.out.own ((Below.refl _ W8).alloc (Nat.le_refl _) (.cells #[.int .i64 t, .slice a3 tx.length c3] 45)))); have hs8' : w4b.heap.size + 1 ≤ W8.heap.size := (by omega); clear hga hrow8 hb8 hs8)
                | (at_builtin; go_must (refine wpList_append_sl _ rfl (.tmp 75) (.tmp 84) 49 rfl (wo.heap.size + 1) 45 j0 (.agg #[.int .i64 0, .slice none 0 0]) 2 32 Try.underlying49 gi gz0 gz1 gz2 rfl (by decide) (.slice la ms.length lc) ms.length (cellsM ms) rfl HOV.out (W8.heap.size + 1) (some ⟨W8.heap.size, 0, none⟩) 1 1 [.int .i64 t, .slice a3 tx.length c3] rfl (slAt_item W8 #[.int .i64 t, .slice a3 tx.length c3] 45 2 rfl) (by intro u hu; simp at hu; rcases hu with rfl | rfl <;> rfl) (by unfold maxLen; omega) (by omega) (by simp; omega) ?_); intro a6 c6 w6 hown6 hgrow6 hat6; have HOWN6 := Lib.hid hown6; have HGR6 := Lib.hid hgrow6; clear d0 d1 d2; have hrw6 : w6.heap[wo.heap.size]? = some (.cells #[.int .i64 v0, .int .i64 v1, .slice la ms.length lc] 88 (0, 0)) := (hgrow6.block wo.heap.size (by have := HI8.out.sz; simp; omega) (fun e => by have := (own_lt HI8.out.own e.symm).1; omega)).trans ((heap_alloc_old _ _ (by have := HI8.out.sz; omega)).trans HI8.out.row); have HRW6 := Lib.hid hrw6; have p2 : w6.cell? ⟨wo.heap.size, 2, none⟩ = some (.slice la ms.length lc) := cell_of_row w6 wo.heap.size 2 _ _ _ hrw6; have f2 : w6.frozen? ⟨wo.heap.size, 2, none⟩ = false := frozen_of_row _ _ _ _ _ hrw6; clear hrw6 hown6 hgrow6 hat6))
              obtain ⟨W9, hW9⟩ : ∃ W9, W9 = w6.setCell ⟨wo.heap.size, 2, none⟩ (.slice a6 (ms.length + 1) c6) := ⟨_, rfl⟩
              have ho9 : ∀ k, k ≠ wo.heap.size → W9.heap[k]? = w6.heap[k]? := fun k hk => by rw [hW9]; exact Below.heap_setCell _ _ _ k hk
              have hs9 : W9.heap.size = w6.heap.size := by rw [hW9]; simp
              have he9 : W9.os = w6.os ∧ W9.tape = w6.tape ∧ W9.output = w6.output := by rw [hW9]; exact ⟨rfl, rfl, rfl⟩
              have hr9 : W9.heap[wo.heap.size]? = some (.cells #[.int .i64 v0, .int .i64 v1, .slice a6 (ms.length + 1) c6] 88 (0, 0)) := by
                rw [hW9]
                have h9 := heap_setCell_same w6 wo.heap.size 2 _ _ (.slice a6 (ms.length + 1) c6) HRW6.out
                simpa using h9
              have hs6 := HGR6.out.size
              simp only [World.size_alloc] at hs6
              have hsz8 := HI8.out.sz
              have hB6 : Below wo.heap.size W8 w6 := ((Below.refl _ W8).alloc (show wo.heap.size ≤ W8.heap.size by omega) (.cells #[.int .i64 t, .slice a3 tx.length c3] 45)).grown HGR6.out (by simp; omega) (fun k hk => by have h9 := (own_lt HI8.out.own hk).1; omega)
              have hB9 : Below wo.heap.size W8 W9 := ⟨he9.1.trans hB6.os, he9.2.1.trans hB6.tape, he9.2.2.trans hB6.output, by omega, fun k hk => (ho9 k (by omega)).trans (hB6.block k hk)⟩
              have hown9 := own_moved HOWN6.out (w' := W9) fun g cur hg _ => ho9 g (by have := (own_lt HOWN6.out hg).1; omega)
              have HIN := Lib.hid (show LoopI l w wL W9 wo.heap.size v2 v0 v1 (j + 1) r2 a4 c4 a6 c6 (ms ++ [⟨(t : Int), a3, tx.length, c3, tx⟩]) from by
                refine ⟨hjl, by simp [HI2.out.nl], ?_, HLF8.out.below hB9 hwl, ?_, ?_, fun m hm => ?_, HI8.out.bel.trans hB9, hwl, by omega⟩
                · rw [HRST2.out]
                  congr 1
                  funext its r'
                  simp
                · rw [hr9]; simp
                · rw [cellsM_append, show (ms ++ [(⟨(t : Int), a3, tx.length, c3, tx⟩ : MItem)]).length = ms.length + 1 by simp]
                  exact hown9
                · simp only [List.mem_append, List.mem_singleton] at hm
                  rcases hm with hm | rfl
                  · exact (HI8.out.bs m hm).below hB9 hwl
                  · exact HTX8.out.below hB9 hwl)
              have HW9 := Lib.hid hW9
              clear hW9 ho9 hs9 he9 hr9 hB6 hB9 hown9 p2 f2 k1 k2 k3 k4
              go_wp2
              rw [← HW9.out]
              go_roundw
              case rel => exact ⟨j + 1, r2, a4, c4, a6, c6, ms ++ [⟨(t : Int), a3, tx.length, c3, tx⟩], by go_num, rfl, HIN.out⟩
              case measure => simp [intOf]; omega
        · have tj : decide ((j : Int) < (v2 : Int)) = false := by simpa using hjl
          have hje : j = v2 := by omega
          subst hje
          have hge2 : getLine l = .ok ⟨(v0 : Nat), (v1 : Nat), ms.map MItem.it⟩ r := by rw [HI2.out.rest, Nat.sub_self]; simp [getItems]
          have HGE2 := Lib.hid hge2
          have HRESr := Lib.hid ((HI2.out.bel.block w.heap.size (by have := HI2.out.wl; omega)).trans HRL.out)
          have HBr := Lib.hid (HBL.out.trans (HI2.out.bel.mono HI2.out.wl))
          have hwl := HI2.out.wl
          clear hge2 hjl
          by_cases hr0 : r = []
          · have tr : decide (0 < r.length) = false := by rw [hr0]; rfl
            obtain ⟨f, hf⟩ : ∃ f, fitsB ⟨(v0 : Nat), (v1 : Nat), ms.map MItem.it⟩ (ms.length : Int) = f := ⟨_, rfl⟩
            have HF := Lib.hid hf
            have HOO := Lib.hid (show O = if f = true then (0, some ⟨(v0 : Nat), (v1 : Nat), ms.map MItem.it⟩) else (4, none) by
              rw [HO.out, HGE2.out, ← hf, hr0]; simp [outL])
            obtain ⟨d0, d1, d2⟩ := lineCells HI2.out.row
            clear hr0 hf
            go_wp2_with fail
            refine (r17Fits ⟨(v0 : Nat), (v1 : Nat), ms.map MItem.it⟩ (by simp) (by simp; omega) la ms.length lc _ _).mono ?_
            rintro e w6 ⟨rfl, hb6⟩
            rw [HF.out]
            have hs6 := hb6.size
            have HI6 := Lib.hid (HI2.out.below hb6)
            have HRES6 := Lib.hid ((hb6.block w.heap.size (by omega)).trans HRESr.out)
            have HB6 := Lib.hid (HBr.out.trans (hb6.mono (by omega)))
            clear hb6 d0 d1 d2
            obtain ⟨d0, d1, d2⟩ := lineCells HI6.out.row
            cases f with
            | false =>
              have hO : O = (4, none) := HOO.out
              subst hO
              go_wp2_with (refine wpList_store_abs rfl 88 (.tmp 2) (.tmp 97) rfl w.heap.size zl rfl rfl 88 _ HRES6.out infoRLine rfl (by simp [Value.oneCell']) ?_; intro W5 hrow5 hoth5 hb5 hs5)
              refine bodyPost_ret (results_row_tmp rfl _ _ w.heap.size 88 _ (0, 0) _ rfl hrow5 Try.underlying88 rfl infoRLine) rfl ⟨HB6.out.trans hb5, rfl⟩
            | true =>
              have hO : O = (0, some ⟨(v0 : Nat), (v1 : Nat), ms.map MItem.it⟩) := HOO.out
              subst hO
              go_wp2_with (refine wpList_store_abs rfl 88 (.tmp 2) (.tmp 98) rfl w.heap.size #[.int .i64 v0, .int .i64 v1, .slice la ms.length lc] rfl rfl 88 _ HRES6.out infoRLine rfl (by simp [Value.oneCell']) ?_; intro W5 hrow5 hoth5 hb5 hs5)
              refine bodyPost_ret (results_row_tmp rfl _ _ w.heap.size 88 _ (0, 0) _ rfl hrow5 Try.underlying88 rfl infoRLine) rfl ?_
              have hbF := HB6.out.trans hb5
              have hown5 := own_moved HI6.out.own (w' := W5) fun g cur hg _ => hoth5 g (by have := (own_lt HI6.out.own hg).1; omega)
              refine ⟨hbF, la, lc, ms, rfl, ⟨itemsOf hown5 rfl rfl fun m hm => ((HI6.out.bs m hm).below hb5 (Nat.le_refl _)).mono hbF.size, rfl⟩⟩
          · have hrp : 0 < r.length := by cases r with
              | nil => exact absurd rfl hr0
              | cons x y => simp
            have tr : decide ((0 : Int) < (r.length : Int)) = true := by simp; omega
            have hO : O = (3, none) := by rw [HO.out, HGE2.out]; simp [outL, hr0]
            subst hO
            clear hr0
            go_wp2_with (refine wpList_store_abs rfl 88 (.tmp 2) (.tmp 90) rfl w.heap.size zl rfl rfl 88 _ HRESr.out infoRLine rfl (by simp [Value.oneCell']) ?_; intro W5 hrow5 hoth5 hb5 hs5)
            refine bodyPost_ret (results_row_tmp rfl _ _ w.heap.size 88 _ (0, 0) _ rfl hrow5 Try.underlying88 rfl infoRLine) rfl ⟨HBr.out.trans hb5, rfl⟩
end Go.Proofs.Ytogcnfhmcpkdcaa

namespace Go.Proofs.Ytogcnfhmcpkdcaa
open Go.RowKit
set_option linter.unusedVariables false
set_option linter.unusedSimpArgs false

/-- a short line has a short form -/
theorem putItems_short : ∀ (l : List PItem), (∀ it ∈ l, rightI it = true ∧ it.2.length ≤ 60) → (putItems l).length ≤ l.length * 78
  | [], _ => by simp [putItems]
  | it :: l, h => by
    have h1 := putItems_short l (fun y hy => h y (by simp [hy]))
    obtain ⟨h2, h3⟩ := h it (by simp)
    obtain ⟨t0, t1, _⟩ := (rightI_iff it).1 h2
    have h4 := putNum_le9 (show it.1.toNat < 18446744073709551616 by omega)
    have h5 := putNum_le9 (show it.2.length < 18446744073709551616 by omega)
    simp only [putItems, putText, List.length_append, List.length_cons]
    omega
theorem put_short {x : PLine} (hg : x.Good) (hs : ∀ it ∈ x.l, it.2.length ≤ 60) (hl : x.l.length ≤ 12) : x.put.length ≤ 1000 := by
  have h1 := putItems_short x.l (fun it hi => ⟨hg.its it hi, hs it hi⟩)
  have := hg.b0; have := hg.b1; have := hg.t0; have := hg.t1
  have h2 := putNum_le9 (show x.base.toNat < 18446744073709551616 by omega)
  have h3 := putNum_le9 (show x.term.toNat < 18446744073709551616 by omega)
  have h4 := putNum_le9 (show x.l.length < 18446744073709551616 by omega)
  simp only [PLine.put, List.length_append]
  omega
theorem fits_self {x : PLine} (hg : x.Good) : fitsB x (x.l.length : Int) = true := by
  have := hg.n1; have := hg.n2
  simp [fitsB]; omega
theorem outL_put {x : PLine} (hg : x.Good) : outL (getLine x.put) = (0, some x) := by
  have h := getLine_put hg []
  rw [List.append_nil] at h
  rw [h]
  simp [outL, fits_self hg]
theorem outL_some {l : List UInt8} {v : PLine} {e : Int} (h : outL (getLine l) = (e, some v)) : e = 0 ∧ v.Good ∧ l = v.put := by
  cases hr : getLine l with
  | err x => rw [hr] at h; cases h
  | ok v' rest =>
    rw [hr] at h
    simp only [outL] at h
    by_cases h1 : rest = []
    · rw [if_pos h1] at h
      by_cases h2 : fitsB v' v'.l.length = true
      · rw [if_pos h2] at h
        injection h with h3 h4
        injection h4 with h4
        subst h4
        obtain ⟨e1, e2, e3, e4, e5, e6, e7⟩ := getLine_ok hr
        simp [fitsB] at h2
        exact ⟨h3.symm, ⟨e2, e3, e4, e5, e6, by omega, e7⟩, by rw [e1, h1]; simp⟩
      · rw [if_neg h2] at h; cases h
    · rw [if_neg h1] at h; cases h
theorem outL_none {l : List UInt8} {e : Int} (h : outL (getLine l) = (e, none)) : e ≠ 0 := by
  cases hr : getLine l with
  | err x => rw [hr] at h; simp only [outL] at h; injection h with h1 _; rw [← h1]; exact sane_line l x hr
  | ok v' rest =>
    rw [hr] at h
    simp only [outL] at h
    by_cases h1 : rest = []
    · rw [if_pos h1] at h
      by_cases h2 : fitsB v' v'.l.length = true
      · rw [if_pos h2] at h; cases h
      · rw [if_neg h2] at h; injection h with h3 _; omega
    · rw [if_neg h1] at h; injection h with h3 _; omega

/-- an item's cells -/
structure ItemS (b o : Nat) (m : MItem) (W : World) : Prop where
  k0 : W.cell? ⟨b, o, none⟩ = some (.int .i64 m.t)
  k1 : W.cell? ⟨b, o + 1, none⟩ = some (.slice m.a m.b.length m.c)
theorem ItemS.keep {b o : Nat} {m : MItem} {W W' : World} (h : ItemS b o m W) {N : Nat} (hb : Below N W W') (h1 : b < N) : ItemS b o m W' :=
  ⟨(hb.cell (p := ⟨b, _, none⟩) h1).trans h.k0, (hb.cell (p := ⟨b, _, none⟩) h1).trans h.k1⟩

theorem add_short {x : PLine} {it : PItem} {k : Nat} (hs : ∀ y ∈ x.l, y.2.length ≤ 60) (hl : x.l.length ≤ k) (hi : it.2.length ≤ 60) : (∀ y ∈ (x.add it).1.l, y.2.length ≤ 60) ∧ (x.add it).1.l.length ≤ k + 1 := by
  unfold PLine.add
  split
  · refine ⟨fun y hy => ?_, by simp; omega⟩
    simp only [List.mem_append, List.mem_singleton] at hy
    rcases hy with hy | rfl
    · exact hs y hy
    · exact hi
  · exact ⟨hs, by show x.l.length ≤ k + 1; omega⟩

set_option maxRecDepth 100000 in
set_option maxHeartbeats 4000000 in
theorem lineBytes_calls (base term : Int) (ms : List MItem) (a : Option Addr) (c : Nat) (bl : List UInt8) (ba : Option Addr) (bc : Nat) (w : World) (h : SlAt w w.heap.size 2 a ms.length c (cellsM ms)) (hx : ∀ m ∈ ms, ItRd w w.heap.size m)
    (hb : bl.length ≤ 140737488355328 → BsAt w w.heap.size ba bl.length bc bl) :
    Calls Try.prog 13 #[.int .i64 base, .int .i64 term, .slice a ms.length c, .slice ba bl.length bc] w fun e w' => e = .returned (.bool true) ∧ Below w.heap.size w w' := by
  by_cases h12 : 12 < ms.length
  · have t1 : decide ((12 : Int) < (ms.length : Int)) = true := by simp; omega
    clear h hx hb h12
    go_enter Try.func13, Try.ntmps13
    go_wp2_with fail
    refine (l17awake _).mono ?_
    rintro e w9 ⟨rfl, hb9⟩
    have HB9 := Lib.hid hb9
    clear hb9
    go_wp2
    go_ret
    exact ⟨rfl, HB9.out⟩
  · have t1 : decide ((12 : Int) < (ms.length : Int)) = false := by simp; omega
    by_cases h400 : 400 < bl.length
    · have t2 : decide ((400 : Int) < (bl.length : Int)) = true := by simp; omega
      clear h hx hb h12 h400
      go_enter Try.func13, Try.ntmps13
      go_wp2_with fail
      refine (l17awake _).mono ?_
      rintro e w9 ⟨rfl, hb9⟩
      have HB9 := Lib.hid hb9
      clear hb9
      go_wp2
      go_ret
      exact ⟨rfl, HB9.out⟩
    · have t2 : decide ((400 : Int) < (bl.length : Int)) = false := by simp; omega
      have HB := Lib.hid (hb (by omega))
      have H := Lib.hid h
      have HX := Lib.hid hx
      obtain ⟨R, hR⟩ : ∃ R, outL (getLine bl) = R := ⟨_, rfl⟩
      have HR := Lib.hid hR
      obtain ⟨N, hN⟩ : ∃ N, isNew base term = N := ⟨_, rfl⟩
      have HN := Lib.hid hN
      have hms12 : ms.length ≤ 12 := by omega
      have hbl : bl.length ≤ 400 := by omega
      clear h hx hb h12 h400 hR hN
      cases N with
      | false =>
        go_enter Try.func13, Try.ntmps13
        go_wp2_with fail
        refine (lineNew_no base term HN.out _).mono ?_
        rintro e w1 ⟨rfl, rfl⟩
        have HBW := Lib.hid (Below.refl w.heap.size w)
        go_wp2_with fail
        have HBB := Lib.hid ((HB.out.below HBW.out (Nat.le_refl _)).mono HBW.out.size)
        refine (lineRead bl ba bl.length bc _ HBB.out).mono ?_
        rintro e w2 ⟨hb2, hm2⟩
        rw [HR.out] at hm2
        obtain ⟨E, o⟩ := R
        have HB2 := Lib.hid (HBW.out.trans (hb2.mono HBW.out.size))
        have HBS2 := Lib.hid ((HB.out.below HB2.out (Nat.le_refl _)).mono HB2.out.size)
        cases o with
        | none =>
          obtain rfl : e = .returned (.tuple #[.pointer none, .int .i64 E]) := hm2
          have hE := outL_none HR.out
          have tE : (E == 0) = false := by simpa using hE
          have tE2 : (E != 0) = true := by simpa using hE
          clear hb2 hE
          go_wp2_with fail
          refine (r17Read bl ba bl.length bc _ HBS2.out).mono ?_
          rintro e w3 ⟨hb3, hm3⟩
          rw [HR.out] at hm3
          obtain rfl : e = .returned (.tuple #[.agg zl, .int .i64 E]) := hm3
          have HB3 := Lib.hid (HB2.out.trans (hb3.mono HB2.out.size))
          clear hb3
          go_wp2_with fail
          refine (l17awake _).mono ?_
          rintro e w9 ⟨rfl, hb9⟩
          have HB9 := Lib.hid (HB3.out.trans ((((Below.refl _ w3).alloc (Nat.le_refl _) (.cells zl 88)).trans (hb9.mono (by simp))).mono HB3.out.size))
          clear hb9
          go_wp2
          go_ret
          exact ⟨rfl, HB9.out⟩
        | some v =>
          obtain ⟨p, la, lc, ls, rfl, hln⟩ := hm2
          obtain ⟨rfl, hgv, hput⟩ := outL_some HR.out
          have HLN := Lib.hid hln
          have HGV := Lib.hid hgv
          have HPUT := Lib.hid hput
          clear hb2 hln hgv hput
          go_wp2_with fail
          refine (r17Read bl ba bl.length bc _ HBS2.out).mono ?_
          rintro e w3 ⟨hb3, hm3⟩
          rw [HR.out] at hm3
          obtain ⟨ra, rc, rs, rfl, hra⟩ := hm3
          obtain ⟨V3, hV3⟩ : ∃ V3, V3 = w3.alloc (.cells #[.int .i64 v.base, .int .i64 v.term, .slice ra rs.length rc] 88) := ⟨_, rfl⟩
          have hbV : Below w3.heap.size w3 V3 := by rw [hV3]; exact (Below.refl _ _).alloc (Nat.le_refl _) _
          have HV3 := Lib.hid hV3
          have HLV := Lib.hid ((HLN.out.below hb3).below hbV)
          have HRV := Lib.hid ((hra.below hbV (Nat.le_refl _)).mono hbV.size)
          have HB3 := Lib.hid (HB2.out.trans ((hb3.trans (hbV.mono hb3.size)).mono HB2.out.size))
          have gb0 := HGV.out.b0
          have gb1 := HGV.out.b1
          clear hb3 hra hbV hV3
          go_wp2_with fail
          rw [← HV3.out]
          refine (l17is _ p v HGV.out la lc ls ra rc rs (v.base + 1) _ HLV.out HRV.out).mono ?_
          rintro e w5 ⟨rfl, hb5⟩
          have HL5 := Lib.hid (HLV.out.below hb5)
          have HB5 := Lib.hid (HB3.out.trans (hb5.mono HB3.out.size))
          have hpl : v.put.length ≤ 900000 := by rw [← HPUT.out]; omega
          clear hb5
          go_wp2_with fail
          refine (linePut _ p v HGV.out la lc ls _ HL5.out hpl).mono ?_
          rintro e w6 ⟨pa, pc, rfl, hbs6, hb6⟩
          have HBS6 := Lib.hid hbs6
          have HB6 := Lib.hid (HB5.out.trans (hb6.mono HB5.out.size))
          have HBI6 := Lib.hid ((HB.out.below HB6.out (Nat.le_refl _)).mono HB6.out.size)
          clear hbs6 hb6
          go_wp2_with fail
          refine (r1Bytes v.put bl pa ba v.put.length pc bl.length bc _ HBS6.out HBI6.out).mono ?_
          rintro e w7 ⟨rfl, hb7⟩
          rw [show decide (v.put = bl) = true from by simp [HPUT.out]]
          have HB7 := Lib.hid (HB6.out.trans (hb7.mono HB6.out.size))
          clear hb7
          go_wp2_with fail
          refine (l17awake _).mono ?_
          rintro e w9 ⟨rfl, hb9⟩
          have HB9 := Lib.hid (HB7.out.trans (hb9.mono HB7.out.size))
          clear hb9
          go_wp2
          go_ret
          exact ⟨rfl, HB9.out⟩
      | true =>
        have hle := H.out.hle
        have hmax := H.out.hmax
        unfold maxLen at hmax
        go_enter Try.func13, Try.ntmps13
        go_wp2_with fail
        refine (lineNew_yes base term HN.out _).mono ?_
        rintro e w1 ⟨rfl, hl1, hbel1, hs1⟩
        have HL1 := Lib.hid hl1
        have HB1 := Lib.hid hbel1
        clear hl1 hbel1
        go_wp2_with fail
        obtain ⟨V0, hV0⟩ : ∃ V0, V0 = w1.alloc (.cells #[.int .i64 base, .int .i64 term, .slice none 0 0] 88) := ⟨_, rfl⟩
        rw [← hV0]
        have bV0 : Below w1.heap.size w1 V0 := by rw [hV0]; exact (Below.refl _ _).alloc (Nat.le_refl _) _
        have HP0 := Lib.hid (show PS w (w.heap.size + 1) V0 w.heap.size ⟨base, term, []⟩ none 0 [] ⟨base, term, []⟩ none 0 [] from
          ⟨HL1.out.below bV0, ⟨⟨⟨by simp [cellsM], by simp, by simp [maxLen], fun _ => rfl, fun hp => by simp [cellsM] at hp⟩, by simp⟩, rfl⟩, fun ad e => by simp at e, by simp, HB1.out.trans (bV0.mono (by omega)), by rw [hV0, ← hs1]; exact heap_alloc_new _ _, by omega⟩)
        have HG0 := Lib.hid (new_good HN.out)
        clear hV0 bV0
        go_loopw [11] (fun iv wr => ∃ (i : Nat) (X : PLine) (la : Option Addr) (lc : Nat) (ls : List MItem) (ra : Option Addr) (rc : Nat) (rs : List MItem), iv = .int .i64 i ∧ i ≤ ms.length ∧ X.Good ∧ (∀ y ∈ X.l, y.2.length ≤ 60) ∧ X.l.length ≤ i ∧ X.base = base ∧ PS w (w.heap.size + 1) wr w.heap.size X la lc ls X ra rc rs) (fun iv _ => ms.length - (intOf iv).toNat)
        case atStart => exact ⟨0, ⟨base, term, []⟩, none, 0, [], none, 0, [], rfl, by omega, HG0.out, by simp, by simp, rfl, HP0.out⟩
        case round =>
          obtain ⟨k, X, la, lc, ls, ra, rc, rs, rfl, hk, hgx, hsh, hsl, hxb, hps⟩ := hrel
          have HP := Lib.hid hps
          have HGX := Lib.hid hgx
          have HSH := Lib.hid hsh
          have HXB := Lib.hid hxb
          clear hps hgx hsh hxb
          by_cases hkl : k < ms.length
          · have u1 : decide ((k : Int) < (ms.length : Int)) = true := by simpa using hkl
            obtain ⟨m, hm⟩ : ∃ m, ms[k]? = some m := ⟨_, List.getElem?_eq_getElem hkl⟩
            have hmm := List.mem_of_getElem? hm
            obtain ⟨b, o, rfl, hb, hc⟩ := H.out.hat (by have := cellsM_len ms; omega)
            have hcl := cellsM_len ms
            obtain ⟨e0, e1⟩ := cellsM_at ms k m hm
            have hmn := (HX.out m hmm).ln
            rw [hmn] at e1
            have hwz := HP.out.bel.size
            have HK := Lib.hid (show ItemS b (o + k * 2) m wr from ⟨(HP.out.bel.cell (p := ⟨b, o + k * 2, none⟩) hb).trans ((hc _ (by omega)).trans e0), (HP.out.bel.cell (p := ⟨b, o + k * 2 + 1, none⟩) hb).trans (by rw [Nat.add_assoc]; exact (hc _ (by omega)).trans e1)⟩)
            have hk0 : (0 : Int) ≤ (k : Int) := by omega
            have hk1 : (k : Int) < (ms.length : Int) := by omega
            obtain ⟨k0, k1⟩ := HK.out
            clear hc hcl e0 e1 hm
            by_cases hlong : 60 < m.b.length
            · have u2 : decide ((60 : Int) < (m.b.length : Int)) = true := by simp; omega
              clear hlong hmn
              go_wp2_with fail
              refine (l17awake _).mono ?_
              rintro e w9 ⟨rfl, hb9⟩
              have HB9 := Lib.hid (HP.out.bel.trans (hb9.mono hwz))
              clear hb9
              go_wp2
              (try rw [Exit.noGoto_ret])
              go_ret
              exact ⟨rfl, HB9.out⟩
            · have u2 : decide ((60 : Int) < (m.b.length : Int)) = false := by simp; omega
              have hm60 : m.b.length ≤ 60 := by omega
              have BSW := Lib.hid (show BsAt w w.heap.size m.a m.b.length m.c m.b from by rw [← hmn]; exact (HX.out m hmm).bs (by omega))
              have HBM := Lib.hid (BSW.out.below HP.out.bel (Nat.le_refl _))
              obtain ⟨Y, at_, hy⟩ : ∃ Y at_, X.add (m.t, m.b) = (Y, at_) := ⟨_, _, rfl⟩
              have HY := Lib.hid hy
              have HGY := Lib.hid (show Y.Good from by have h9 := HGX.out.add (m.t, m.b); rw [hy] at h9; exact h9)
              have HYS := Lib.hid (show (∀ y ∈ Y.l, y.2.length ≤ 60) ∧ Y.l.length ≤ k + 1 from by have h9 := add_short (it := (m.t, m.b)) HSH.out hsl hm60; rw [hy] at h9; exact h9)
              have HYB := Lib.hid (show Y.base = base from by
                have h9 := congrArg (fun z => z.1.base) hy
                simp only at h9
                rw [← h9, ← HXB.out]
                unfold PLine.add
                split <;> rfl)
              clear hlong hmn hmm hy
              go_wp2_with fail
              refine wp_region_any (by kernel_rfl) ?_
              refine wpAny_of_held (S := ItemS b (o + k * 2) m) _ _ _ _ ?_
              have hdr : Below wr.heap.size wr wr.drew := (Below.refl _ _).drew
              have hS0 := HK.out.keep hdr (by omega)
              clear k0 k1
              refine heldTake 1 52 rfl rfl (by kernel_rfl) (by kernel_rfl) (by kernel_rfl) (fun _ _ _ h => h) hS0 (.inl ⟨by rfl, by intro w' hS; obtain ⟨s1, s2⟩ := hS; go_simp; (try rfl)⟩) ?_
              simp only [List.set_cons_zero, List.set_cons_succ]
              refine heldTake 2 53 rfl rfl (by kernel_rfl) (by kernel_rfl) (by kernel_rfl) (fun _ _ _ h => h) hS0 (.inl ⟨by rfl, by intro w' hS; obtain ⟨s1, s2⟩ := hS; go_simp; (try rfl)⟩) ?_
              simp only [List.set_cons_zero, List.set_cons_succ]
              refine heldTake 3 54 rfl rfl (by kernel_rfl) (by kernel_rfl) (by kernel_rfl) (fun _ _ _ h => h) hS0 (.inl ⟨by rfl, by intro w' hS; obtain ⟨s1, s2⟩ := hS; go_simp; (try rfl)⟩) ?_
              simp only [List.set_cons_zero, List.set_cons_succ]
              refine heldTake 4 55 rfl rfl (by kernel_rfl) (by kernel_rfl) (by kernel_rfl) (fun _ _ _ h => h) hS0 (.inl ⟨by rfl, by intro w' hS; obtain ⟨s1, s2⟩ := hS; go_simp; (try rfl)⟩) ?_
              simp only [List.set_cons_zero, List.set_cons_succ]
              refine heldOne 0 (by kernel_rfl) rfl (by rfl) ?_
              refine wp_load_row 88 (.tmp 10) rfl (w.heap.size + 1) rfl 88 #[.int .i64 X.base, .int .i64 X.term, .slice ra rs.length rc] (0, 0) _ (HP.out.below hdr).row Try.underlying88 rfl infoRLine ?_
              refine ⟨hS0, ?_⟩
              clear hS0
              refine heldOne 5 (by kernel_rfl) rfl (by rfl) ?_
              go_simp
              refine (r17Add X HGX.out ra rc rs m.t m.a m.c m.b _ (HP.out.below hdr).rx ((HBM.out.below hdr hwz).mono hwz)).mono ?_
              rintro e w3 ⟨ra3, rc3, rs3, rfl, hr3, hb3, hf3, hm3⟩
              rw [HY.out] at hr3 ⊢
              have hbr := hdr.trans hb3
              have hgl := HP.out.glt
              have hs3 := hbr.size
              have HP3 := Lib.hid (HP.out.below hbr)
              have HF3 := Lib.hid (HP.out.fresh hs3 (show Fresh wr w3 ra ra3 from hf3))
              have HIN3 := Lib.hid (show ∀ m ∈ rs3, m.Bs w3 w.heap.size from fun m9 hm9 => by
                rcases hm3 m9 hm9 with h9 | rfl
                · exact (HP.out.inp m9 h9).below hbr hwz
                · exact HBM.out.below hbr hwz)
              have HR3 := Lib.hid hr3
              have HB3 := Lib.hid hbr
              have hS3 := HK.out.keep hbr (by omega)
              refine ⟨hS3, ?_⟩
              clear hdr hr3 hb3 hf3 hm3 hbr
              refine heldTake 6 50 rfl rfl (by kernel_rfl) (by kernel_rfl) (by kernel_rfl) (fun _ _ _ h => h) hS3 (.inl ⟨by rfl, by intro w' hS; obtain ⟨s1, s2⟩ := hS; go_simp; (try rfl)⟩) ?_
              simp only [List.set_cons_zero, List.set_cons_succ]
              refine heldTake 7 57 rfl rfl (by kernel_rfl) (by kernel_rfl) (by kernel_rfl) (fun _ _ _ h => h) hS3 (.inl ⟨by rfl, by intro w' hS; obtain ⟨s1, s2⟩ := hS; go_simp; (try rfl)⟩) ?_
              simp only [List.set_cons_zero, List.set_cons_succ]
              refine heldTake 8 58 rfl rfl (by kernel_rfl) (by kernel_rfl) (by kernel_rfl) (fun _ _ _ h => h) hS3 (.inl ⟨by rfl, by intro w' hS; obtain ⟨s1, s2⟩ := hS; go_simp; (try rfl)⟩) ?_
              simp only [List.set_cons_zero, List.set_cons_succ]
              clear hS3
              refine heldOne 9 (by kernel_rfl) rfl (by rfl) ?_
              refine wp_store_row 88 (.tmp 10) (.tmp 57) rfl (w.heap.size + 1) #[.int .i64 Y.base, .int .i64 Y.term, .slice ra3 rs3.length rc3] rfl rfl 88 _ HP3.out.row infoRLine rfl (by simp [Value.oneCell']) ?_
              obtain ⟨W5, hW5⟩ : ∃ W5, W5 = w3.setRow (w.heap.size + 1) #[.int .i64 Y.base, .int .i64 Y.term, .slice ra3 rs3.length rc3] := ⟨_, rfl⟩
              rw [← hW5]
              have hb5 : Below (w.heap.size + 1) w3 W5 := by rw [hW5]; exact below_setRow w3 _ (Nat.le_refl _)
              have HP5 := Lib.hid (HP3.out.setRef HR3.out HF3.out HIN3.out (W := W5) (by rw [hW5]; exact setRow_heap w3 _ _ _ _ _ HP3.out.row) (by rw [hW5]; exact fun k hk => setRow_other _ _ _ _ hk) hb5 (by rw [hW5]; simp))
              have HK5 := Lib.hid (HK.out.keep ((HB3.out.mono hwz).trans (hb5.mono (show w.heap.size ≤ w.heap.size + 1 by omega))) hb)
              clear hW5 hb5
              refine ⟨HK5.out, wpAnyH_done (by kernel_rfl) ?_ _⟩
              obtain ⟨k0, k1⟩ := HK5.out
              have hw5 := HP5.out.bel
              go_wp2_with fail
              refine (lineAdd w.heap.size w.heap.size X HGX.out la lc ls m.t m.a m.c m.b _ HP5.out.ln ((BSW.out.below hw5 (Nat.le_refl _)).mono hw5.size) hw5.size).mono ?_
              rintro e w6 ⟨rfl, hl6⟩
              rw [HY.out] at hl6 ⊢
              obtain ⟨la6, lc6, ls6, hp6, hk6⟩ := HP5.out.turn hl6
              have HPN := Lib.hid hp6
              clear hl6 hp6 hk6 k0 k1 hw5
              go_wp2
              go_roundw
              case rel => exact ⟨k + 1, Y, la6, lc6, ls6, ra3, rc3, rs3, by go_num, hkl, HGY.out, HYS.out.1, HYS.out.2, HYB.out, HPN.out⟩
              case measure => simp [intOf]; omega
          · have u1 : decide (k < ms.length) = false := by simpa using hkl
            have hXp := put_short HGX.out HSH.out (by omega)
            have hx9 : X.put.length ≤ 900000 := by omega
            clear hkl
            go_wp2_with fail
            refine (linePut w.heap.size w.heap.size X HGX.out la lc ls _ HP.out.ln hx9).mono ?_
            rintro e w3 ⟨pa, pc, rfl, hbs3, hb3⟩
            have HP3 := Lib.hid (HP.out.below hb3)
            have HBS3 := Lib.hid hbs3
            clear hb3 hbs3
            go_wp2_with fail
            refine (lineRead X.put pa X.put.length pc _ HBS3.out).mono ?_
            rintro e w4 ⟨hb4, hm4⟩
            rw [outL_put HGX.out] at hm4
            obtain ⟨p, la4, lc4, ls4, rfl, hln4⟩ := hm4
            have HP4 := Lib.hid (HP3.out.below hb4)
            have HBS4 := Lib.hid ((HBS3.out.below hb4 (Nat.le_refl _)).mono hb4.size)
            have HL4 := Lib.hid hln4
            obtain ⟨g0, g1, g2⟩ := lineCells HP4.out.row
            clear hb4 hln4
            go_wp2_with fail
            refine (r17Put X HGX.out ra rc rs _ HP4.out.rx hx9).mono ?_
            rintro e w5 ⟨qa, qc, rfl, hbs5, hb5⟩
            have HP5 := Lib.hid (HP4.out.below hb5)
            have HBS5 := Lib.hid hbs5
            have HBP5 := Lib.hid ((HBS4.out.below hb5 (Nat.le_refl _)).mono hb5.size)
            have HL5 := Lib.hid (HL4.out.below hb5)
            clear hbs5 hb5 g0 g1 g2
            go_wp2_with fail
            refine (r1Bytes X.put X.put pa qa X.put.length pc X.put.length qc _ HBP5.out HBS5.out).mono ?_
            rintro e w6 ⟨rfl, hb6⟩
            rw [show decide (X.put = X.put) = true from by simp]
            have HP6 := Lib.hid (HP5.out.below hb6)
            have HL6 := Lib.hid (HL5.out.below hb6)
            obtain ⟨g0, g1, g2⟩ := lineCells HP6.out.row
            clear hb6
            go_wp2_with fail
            refine (l17is _ p X HGX.out la4 lc4 ls4 ra rc rs base _ HL6.out HP6.out.rx).mono ?_
            rintro e w7 ⟨rfl, hb7⟩
            have HBW := Lib.hid ((HP6.out.below hb7).bel)
            clear hb7 g0 g1 g2
            go_wp2_with fail
            have HBB := Lib.hid ((HB.out.below HBW.out (Nat.le_refl _)).mono HBW.out.size)
            refine (lineRead bl ba bl.length bc _ HBB.out).mono ?_
            rintro e w2 ⟨hb2, hm2⟩
            rw [HR.out] at hm2
            obtain ⟨E, o⟩ := R
            have HB2 := Lib.hid (HBW.out.trans (hb2.mono HBW.out.size))
            have HBS2 := Lib.hid ((HB.out.below HB2.out (Nat.le_refl _)).mono HB2.out.size)
            cases o with
            | none =>
              obtain rfl : e = .returned (.tuple #[.pointer none, .int .i64 E]) := hm2
              have hE := outL_none HR.out
              have tE : (E == 0) = false := by simpa using hE
              have tE2 : (E != 0) = true := by simpa using hE
              clear hb2 hE
              go_wp2_with fail
              refine (r17Read bl ba bl.length bc _ HBS2.out).mono ?_
              rintro e w3 ⟨hb3, hm3⟩
              rw [HR.out] at hm3
              obtain rfl : e = .returned (.tuple #[.agg zl, .int .i64 E]) := hm3
              have HB3 := Lib.hid (HB2.out.trans (hb3.mono HB2.out.size))
              clear hb3
              go_wp2_with fail
              refine (l17awake _).mono ?_
              rintro e w9 ⟨rfl, hb9⟩
              have HB9 := Lib.hid (HB3.out.trans ((((Below.refl _ w3).alloc (Nat.le_refl _) (.cells zl 88)).trans (hb9.mono (by simp))).mono HB3.out.size))
              clear hb9
              go_wp2
              go_ret
              exact ⟨rfl, HB9.out⟩
            | some v =>
              obtain ⟨p, la, lc, ls, rfl, hln⟩ := hm2
              obtain ⟨rfl, hgv, hput⟩ := outL_some HR.out
              have HLN := Lib.hid hln
              have HGV := Lib.hid hgv
              have HPUT := Lib.hid hput
              clear hb2 hln hgv hput
              go_wp2_with fail
              refine (r17Read bl ba bl.length bc _ HBS2.out).mono ?_
              rintro e w3 ⟨hb3, hm3⟩
              rw [HR.out] at hm3
              obtain ⟨ra, rc, rs, rfl, hra⟩ := hm3
              obtain ⟨V3, hV3⟩ : ∃ V3, V3 = w3.alloc (.cells #[.int .i64 v.base, .int .i64 v.term, .slice ra rs.length rc] 88) := ⟨_, rfl⟩
              have hbV : Below w3.heap.size w3 V3 := by rw [hV3]; exact (Below.refl _ _).alloc (Nat.le_refl _) _
              have HV3 := Lib.hid hV3
              have HLV := Lib.hid ((HLN.out.below hb3).below hbV)
              have HRV := Lib.hid ((hra.below hbV (Nat.le_refl _)).mono hbV.size)
              have HB3 := Lib.hid (HB2.out.trans ((hb3.trans (hbV.mono hb3.size)).mono HB2.out.size))
              have gb0 := HGV.out.b0
              have gb1 := HGV.out.b1
              clear hb3 hra hbV hV3
              go_wp2_with fail
              rw [← HV3.out]
              refine (l17is _ p v HGV.out la lc ls ra rc rs (v.base + 1) _ HLV.out HRV.out).mono ?_
              rintro e w5 ⟨rfl, hb5⟩
              have HL5 := Lib.hid (HLV.out.below hb5)
              have HB5 := Lib.hid (HB3.out.trans (hb5.mono HB3.out.size))
              have hpl : v.put.length ≤ 900000 := by rw [← HPUT.out]; omega
              clear hb5
              go_wp2_with fail
              refine (linePut _ p v HGV.out la lc ls _ HL5.out hpl).mono ?_
              rintro e w6 ⟨pa, pc, rfl, hbs6, hb6⟩
              have HBS6 := Lib.hid hbs6
              have HB6 := Lib.hid (HB5.out.trans (hb6.mono HB5.out.size))
              have HBI6 := Lib.hid ((HB.out.below HB6.out (Nat.le_refl _)).mono HB6.out.size)
              clear hbs6 hb6
              go_wp2_with fail
              refine (r1Bytes v.put bl pa ba v.put.length pc bl.length bc _ HBS6.out HBI6.out).mono ?_
              rintro e w7 ⟨rfl, hb7⟩
              rw [show decide (v.put = bl) = true from by simp [HPUT.out]]
              have HB7 := Lib.hid (HB6.out.trans (hb7.mono HB6.out.size))
              clear hb7
              go_wp2_with fail
              refine (l17awake _).mono ?_
              rintro e w9 ⟨rfl, hb9⟩
              have HB9 := Lib.hid (HB7.out.trans (hb9.mono HB7.out.size))
              clear hb9
              go_wp2
              go_ret
              exact ⟨rfl, HB9.out⟩
end Go.Proofs.Ytogcnfhmcpkdcaa
