/-
  Walks of a group: a letter comes (deliver).
-/
import Derived.Test.YtogcnfhmcpkdcaaGreatGrW9
import Derived.Test.YtogcnfhmcpkdcaaGreatRaftNB
import Derived.Test.YtogcnfhmcpkdcaaGreatLetRz
import Derived.Test.YtogcnfhmcpkdcaaGreatHeldM
namespace Go.Proofs.YtogcnfhmcpkdcaaGreat
open Go.RowKit
set_option linter.unusedVariables false
set_option linter.unusedSimpArgs false
section
variable {w w' w1 : World} {B g c : Nat} {G : PGroup} {M : GMem} {i : Nat}
theorem GrAt.setBag (h : GrAt w B g c G M) (hb : Below w.heap.size w w1) {ms' : List MMail} (hms : ∀ m ∈ ms', m ∈ M.ms) {a : Option Addr} {c' n' : Nat} (hn : ms'.length = n') (ho : w1.ownsRow w.heap.size 99 3 (.slice a n' c') n' (ms'.flatMap MMail.cells)) :
  GrAt (w1.setCell ⟨g, 4, none⟩ (.slice a n' c')) B g c { G with bag := ms'.map MMail.p } { M with ra := upd M.ra 4 a, rc := upd M.rc 4 c', ms := ms' } := by
 subst hn;obtain ⟨G', hG'⟩ : ∃ G' : PGroup, G' = { G with bag := ms'.map MMail.p } := ⟨_, rfl⟩
 obtain ⟨M', hM'⟩ : ∃ M' : GMem, M' = { M with ra := upd M.ra 4 a, rc := upd M.rc 4 c', ms := ms' } := ⟨_, rfl⟩
 rw [← hG', ← hM'];have hra : M'.ra = upd M.ra 4 a := by rw [hM']
 have hrc : M'.rc = upd M.rc 4 c' := by rw [hM']
 have hN : ∀ j, j < 8 → j ≠ 4 → rowN G' M' j = rowN G M j := fun j h8 hj => by rw [hG', hM']; unfold rowN; split <;> first | rfl | exact absurd rfl hj
 have hX : ∀ j, j < 8 → j ≠ 4 → rowX G' M' j = rowX G M j := fun j h8 hj => by rw [hG', hM']; unfold rowX; split <;> first | rfl | exact absurd rfl hj
 have hN' : rowN G' M' 4 = ms'.length := by rw [hM']; rfl
 have hX' : rowX G' M' 4 = ms'.flatMap MMail.cells := by rw [hM']; rfl
 have hV' : rowV G' M' 4 = .slice a ms'.length c' := by unfold rowV; rw [hra, hrc, hN', upd_same, upd_same]
 have hV : ∀ j, j < 8 → j ≠ 4 → rowV G' M' j = rowV G M j := fun j h8 hj => by unfold rowV; rw [hra, hrc, hN j h8 hj, upd_other _ _ hj, upd_other _ _ hj]
 have hgl := h.lt (x := .g) rfl;have hoth : ∀ k, k ≠ g → (w1.setCell ⟨g, 4, none⟩ (.slice a ms'.length c')).heap[k]? = w1.heap[k]? := fun k hk => Below.heap_setCell _ _ _ k hk
 have hf : GFr g M (fun x => x = .g ∨ x = .row 4) w (w1.setCell ⟨g, 4, none⟩ (.slice a ms'.length c')) := ⟨hb.os, hb.tape, hb.output, by simpa using hb.size, fun k hk hx => by
  have h1 : k ≠ g := fun e => hx .g e (.inl rfl)
  exact (hoth k h1).trans (hb.block k hk)⟩
 have hrow1 : w1.heap[g]? = some (.cells (gcells G M) 67 (0, 0)) := (hb.block g hgl).trans h.row;have hct := h.contTo hf;refine h.putRow (i := 4) (by omega) hf ?_ ?_ hN hX (fun j hj => by rw [hra, upd_other _ _ hj]) (fun j hj => by rw [hrc, upd_other _ _ hj]) (fun k hk => ?_) (by rw [hM']) (by rw [hG']) (fun j t ht _ => by rw [hM'] at ht; exact ht) ?_ (.inl (by omega))
 ·rw [heap_setCell_same w1 g 4 _ _ (.slice a ms'.length c') hrow1, ← hV', gcells_set (by omega) hV (by rw [hG'])]
 ·rw [hV', hN', hX'];refine own_mono0 (own_mv9 ho fun k hk => hoth k (fun e => ?_));have := (own_lt ho hk).1;omega
 ·rw [hra, upd_same] at hk;exact .inr (own_lt ho (by rw [ownBlock_eq]; exact hk)).1
 ·rw [hG', hM'];exact ⟨hct.hq, hct.hb, hct.tq, hct.tr, hct.tb, rfl, fun m hm => hct.bb m (hms m hm), hct.sq, hct.sb⟩
theorem mailCells : ∀ (l : List MMail) (k : Nat) (m : MMail), l[k]? = some m → (l.flatMap MMail.cells)[k * 3]? = some (.int .i64 m.f) ∧ (l.flatMap MMail.cells)[k * 3 + 1]? = some (.int .i64 m.t) ∧ (l.flatMap MMail.cells)[k * 3 + 2]? = some (.slice m.a m.b.length m.c)
 | [], k, m, h => by simp at h
 | x :: l, 0, m, h => by simp at h; subst h; exact ⟨rfl, rfl, rfl⟩
 | x :: l, k + 1, m, h => by
  have := mailCells l k m (by simpa using h);rw [show (k + 1) * 3 = k * 3 + 1 + 1 + 1 by omega];exact this
theorem mails_take : ∀ (l : List MMail) (k : Nat), (l.flatMap MMail.cells).take (k * 3) = (l.take k).flatMap MMail.cells
 | [], k => by simp
 | x :: l, 0 => by simp
 | x :: l, k + 1 => by
  have h9 := mails_take l k;rw [List.flatMap_cons, List.take_succ_cons, List.flatMap_cons, ← h9, show (k + 1) * 3 = x.cells.length + k * 3 by show _ = 3 + k * 3; omega, List.take_length_add_append]
theorem mails_drop : ∀ (l : List MMail) (k : Nat), (l.flatMap MMail.cells).drop (k * 3) = (l.drop k).flatMap MMail.cells
 | [], k => by simp
 | x :: l, 0 => by simp
 | x :: l, k + 1 => by
  have h9 := mails_drop l k;rw [List.flatMap_cons, List.drop_succ_cons, ← h9, show (k + 1) * 3 = x.cells.length + k * 3 by show _ = 3 + k * 3; omega, List.drop_length_add_append]
structure DlS (g b n cap : Nat) (W : World) : Prop where
 s : g < W.heap.size
 c4 : W.cell? ⟨g, 4, none⟩ = some (.slice (some ⟨b, 0, none⟩) n cap)
theorem DlS.below {b n cap : Nat} (h : DlS g b n cap w) (hb : Below w.heap.size w w') : DlS g b n cap w' := ⟨Nat.lt_of_lt_of_le h.s hb.size, (hb.cell (p := ⟨g, 4, none⟩) h.s).trans h.c4⟩
theorem mailsOne {l : List MMail} : ∀ u ∈ l.flatMap MMail.cells, u.oneCell' = true := fun u hu => by
 obtain ⟨m, -, hm⟩ := List.mem_flatMap.1 hu;have hm : u ∈ [Value.int .i64 m.f, Value.int .i64 m.t, Value.slice m.a m.b.length m.c] := hm;simp at hm;rcases hm with rfl | rfl | rfl <;> rfl
structure HnS (g b0 n cap i p bm lb : Nat) (f : Nat) (x : PLet) (ia : Option Addr) (m ic : Nat) (ba : Option Addr) (bc : Nat) (W : World) : Prop where
 s : g < W.heap.size
 c0 : W.cell? ⟨g, 0, none⟩ = some (.slice (some ⟨b0, 0, none⟩) n cap)
 k0 : W.cell? ⟨b0, i, none⟩ = some (.pointer (some ⟨p, 0, none⟩))
 d0 : W.cell? ⟨bm, 0, none⟩ = some (.int .i64 f)
 d1 : W.cell? ⟨bm, 1, none⟩ = some (.int .i64 i)
 e0 : W.cell? ⟨lb, 0, none⟩ = some (.int .i64 x.k)
 e1 : W.cell? ⟨lb, 1, none⟩ = some (.int .i64 x.t)
 e2 : W.cell? ⟨lb, 2, none⟩ = some (.int .i64 x.a)
 e3 : W.cell? ⟨lb, 3, none⟩ = some (.int .i64 x.u)
 e4 : W.cell? ⟨lb, 4, none⟩ = some (.int .i64 x.o)
 e5 : W.cell? ⟨lb, 5, none⟩ = some (.bool x.y)
 e6 : W.cell? ⟨lb, 6, none⟩ = some (.slice ia m ic)
 e7 : W.cell? ⟨lb, 7, none⟩ = some (.slice ba x.b.length bc)
theorem HnS.below {b0 n cap i p bm lb f : Nat} {x : PLet} {ia : Option Addr} {m ic : Nat} {ba : Option Addr} {bc : Nat} (h : HnS g b0 n cap i p bm lb f x ia m ic ba bc w) (hb : Below w.heap.size w w') : HnS g b0 n cap i p bm lb f x ia m ic ba bc w' := by
 have go : ∀ (b o : Nat) (v : Value), w.cell? ⟨b, o, none⟩ = some v → w'.cell? ⟨b, o, none⟩ = some v := fun b o v hv => (hb.cell (p := ⟨b, o, none⟩) (cell_lt9 hv)).trans hv
 exact ⟨Nat.lt_of_lt_of_le h.s hb.size, go _ _ _ h.c0, go _ _ _ h.k0, go _ _ _ h.d0, go _ _ _ h.d1, go _ _ _ h.e0, go _ _ _ h.e1, go _ _ _ h.e2, go _ _ _ h.e3, go _ _ _ h.e4, go _ _ _ h.e5, go _ _ _ h.e6, go _ _ _ h.e7⟩
theorem LOwn.far {K p : Nat} {M : RMem} {v : PLet} {ia : Option Addr} {ic : Nat} {ms : List MItem} {ba : Option Addr} {bc : Nat} (h : LOwn K w v ia ic ms ba bc) (ho : ∀ k, M.own p k → k < K) : LetFar w p M v ia ic ms ba bc := by
 refine ⟨h.letAt, fun _ ad e hq => ?_, fun m hm _ ad e hq => ?_, fun _ ad e hq => ?_⟩
 ·have h1 := (own_lt h.own (show _ = some ad.block by rw [ownBlock_eq, e]; rfl)).1;have := ho _ hq;omega
 ·have h1 := (own_lt (h.bs m hm).2 (show _ = some ad.block by rw [ownBlock_eq, e]; rfl)).1;have := ho _ hq;omega
 ·have h1 := (own_lt h.b (show _ = some ad.block by rw [ownBlock_eq, e]; rfl)).1;have := ho _ hq;omega
theorem infoMail3 : (Tryz.prog.info? 99).map (·.size) = some 3 := by kernel_rfl
set_option maxRecDepth 100000 in
set_option maxHeartbeats 4000000 in
theorem l18deliver {N : RMem} {p n f k : Nat} {x : PLet} {R : PRaft} (h : GrAt w B g c G M) (he : ∀ q : Nat × RMem, M.ps[c]? = some q → q.2.ps = []) (hk : G.bag[k]? = some ((f : Int), (i : Int), putL x)) (hx : rightL x = true) (hbl : G.bag.length ≤ 2000) (hr : G.right = true)
  (hR : G.rs[i]? = some R) (hq : M.ps[i]? = some (p, N)) (hok : R.Ok) (hnw : R.news.length ≤ 999980000) (hou : R.out.length ≤ 999998000)
  (hcw : Cw { G with bag := G.bag.take k ++ G.bag.drop (k + 1), rs := G.rs.set i (R.handle f x) } i n (R.handle f x)) :
  Calls Tryz.prog 59 #[.pointer (some ⟨g, 0, none⟩), .int .i64 k] w fun e w' => e = .returned (.tuple #[]) ∧ ∃ M' N', GrAt w' B g i (({ G with bag := G.bag.take k ++ G.bag.drop (k + 1), rs := G.rs.set i (R.handle f x) } : PGroup).coll i (R.handle f x)) M' ∧ M'.ps[i]? = some (p, N') ∧ N'.ps = [] ∧ Below B w w' := by
 have hlen : M.ms.length = G.bag.length := by rw [← h.ct.bq]; simp
 have hkl : k < G.bag.length := (List.getElem?_eq_some_iff.1 hk).1;obtain ⟨m, hm⟩ : ∃ m, M.ms[k]? = some m := ⟨_, List.getElem?_eq_getElem (by omega)⟩
 have hmp : m.p = ((f : Int), (i : Int), putL x) := by
  have h9 : (M.ms.map MMail.p)[k]? = some ((f : Int), (i : Int), putL x) := by rw [h.ct.bq]; exact hk
  rw [List.getElem?_map, hm] at h9;injection h9
 obtain ⟨mf, mt, ma, mc, mb⟩ := m;have e1 : mf = (f : Int) := congrArg (·.1) hmp;have e2 : mt = (i : Int) := congrArg (·.2.1) hmp;have e3 : mb = putL x := congrArg (·.2.2) hmp;subst e1 e2 e3;obtain ⟨b, hb1⟩ : ∃ b, M.ra 4 = some ⟨b, 0, none⟩ := by
  obtain ⟨b, cap, e⟩ := rowForm h (i := 4) (by omega) (by show 0 < M.ms.length; omega);injection e with e
  exact ⟨b, e⟩
 obtain ⟨L, hL⟩ : ∃ L, L = M.ms.length := ⟨_, rfl⟩
 have c4 : w.cell? ⟨g, 4, none⟩ = some (.slice (some ⟨b, 0, none⟩) L (M.rc 4)) := by rw [← hb1, hL]; exact h.cl (i := 4) (by omega)
 have hrow := h.rows 4 (by omega);have hsl : SlAt w w.heap.size 3 (some ⟨b, 0, none⟩) L (M.rc 4) (M.ms.flatMap MMail.cells) := by
  obtain ⟨a9, c9, e9, h9⟩ := SlAt.ofOwns hrow;have e9 : Value.slice (M.ra 4) M.ms.length (M.rc 4) = _ := e9;injection e9 with e1 _ e3
  subst e1 e3;rw [← hb1, hL]; exact h9
 have hcs : ∀ j, j < M.ms.length * 3 → w.cell? ⟨b, j, none⟩ = (M.ms.flatMap MMail.cells)[j]? := fun j hj => by
  obtain ⟨b9, o9, e9, -, h9⟩ := hsl.hat (by rw [hsl.hlen]; omega);injection e9 with e9; injection e9 with e9 e10; subst e9 e10
  have := h9 j (by rw [hsl.hlen, hL]; exact hj);simpa using this
 obtain ⟨z0, z1, z2⟩ := mailCells _ _ _ hm;have q0 : w.cell? ⟨b, k * 3, none⟩ = some (.int .i64 f) := (hcs _ (by omega)).trans z0;have q1 : w.cell? ⟨b, k * 3 + 1, none⟩ = some (.int .i64 i) := (hcs _ (by omega)).trans z1;have q2 : w.cell? ⟨b, k * 3 + 2, none⟩ = some (.slice ma (putL x).length mc) := (hcs _ (by omega)).trans z2;have hk0 : (0 : Int) ≤ (k : Int) := by omega
 have hk1 : (k : Int) < (L : Int) := by omega
 have hLb : L ≤ 2000 := by omega
 have hkL : k < L := by omega
 have hcap : L ≤ M.rc 4 := hsl.hle;obtain ⟨cap, hcp⟩ : ∃ cap, cap = M.rc 4 := ⟨_, rfl⟩
 rw [← hcp] at c4 hsl hcap;have H := Hh h;have HE := Hh he;have HM := Hh hm;have HLQ := Hh hL;have HLEN := Hh hlen;have HSL := Hh hsl;have HCW := Hh hcw;have HQ := Hh hq;have HR := Hh hR;have HOK := Hh hok;have HX := Hh hx;have HRT := Hh hr;have HBY := Hh (h.ct.bb _ (List.mem_of_getElem? hm));have HB1 := Hh hb1;clear h he hk hm hmp hlen hL hsl hcs z0 z1 z2 hrow hcw hq hR hok hx hr hb1 hkl hbl hcp;obtain ⟨iM, jM, jM0, jM1, jM2⟩ := info_parts infoMail;go_enter Tryz.func59, Tryz.ntmps59
 go_wp2_with fail;obtain ⟨V, hV⟩ : ∃ V, V = w.alloc (.cells #[.int .i64 f, .int .i64 i, .slice ma (putL x).length mc] 99) := ⟨_, rfl⟩
 rw [← hV];have hbV : Below w.heap.size w V := by rw [hV]; exact (Below.refl _ _).alloc (Nat.le_refl _) _
 have hrV : V.heap[w.heap.size]? = some (.cells #[.int .i64 f, .int .i64 i, .slice ma (putL x).length mc] 99 (0, 0)) := by rw [hV]; exact heap_alloc_new w _
 have HV := Hh (H.out.below hbV);have HBV := Hh hbV;have HRV := Hh hrV;have HSV := Hh (show DlS g b L cap V from ⟨HV.out.lt (x := .g) rfl, (hbV.cell (p := ⟨g, 4, none⟩) (H.out.lt (x := .g) rfl)).trans c4⟩);obtain ⟨k1, hk1'⟩ : ∃ k1 : Nat, k1 = k + 1 := ⟨_, rfl⟩
 have wk : IntKind.i64.wrap ((k : Int) + 1) = (k1 : Int) := by rw [IntWalk.i64_in _ (by omega)]; omega
 have hrun1 : ∀ w' : World, (Instr.slice 64 (.slice (some ⟨b, 0, none⟩) L cap) none (some (.int .i64 k)) none).run Tryz.prog w' = .ok (.slice (some ⟨b, 0, none⟩) k cap) w' := fun w' =>
  run_upto Tryz.underlying64 infoMail3 (some ⟨b, 0, none⟩) L cap .i64 k (by omega) w'
 obtain ⟨sa, hsa⟩ : ∃ sa, sa = (if cap = k1 then some ⟨b, 0, none⟩ else (some (⟨b, 0, none⟩ : Addr)).map (·.add (k1 * 3))) := ⟨_, rfl⟩
 have hrun2 : ∀ w' : World, (Instr.slice 64 (.slice (some ⟨b, 0, none⟩) L cap) (some (.int .i64 k1)) none none).run Tryz.prog w' = .ok (.slice sa (L - k1) (cap - k1)) w' := fun w' => by
  rw [hsa];exact run_from Tryz.underlying64 infoMail3 (some ⟨b, 0, none⟩) L cap .i64 k1 (by omega) w'
 have HS1 := Hh (show SlAt w w.heap.size 3 (some ⟨b, 0, none⟩) k cap ((M.ms.take k).flatMap MMail.cells) by
  rw [← mails_take]; exact HSL.out.upto (by omega) (by omega) (Nat.le_refl _))
 have HS2 := Hh (show SlAt w w.heap.size 3 sa (L - k1) (cap - k1) ((M.ms.drop k1).flatMap MMail.cells) by
  rw [← mails_drop, hsa]; exact HSL.out.from_ (by omega))
 have HK1 := Hh hk1';clear hV hbV hrV hsa hk1' c4 q0 q1 q2 hcap;go_wp2_with fail;refine OpGZ (S := DlS g b L cap) 19 ?_;intro Y hdr;have hS : DlS g b L cap Y := HSV.out.below hdr;refine hTZ 0 14 hS ?_;refine hTZ 2 16 hS ?_;refine hTZ 6 20 hS ?_;refine hTZ 9 23 hS ?_;refine hTZ 13 27 hS ?_;refine hTZ 3 17 hS ?_;refine hTZ 10 24 hS ?_;refine hVZ 14 28 (.int .i64 k1) hS ?_;refine hTZ 4 18 hS ?_;refine hTZ 11 25 hS ?_;refine hTZ 5 19 hS ?_;refine hTZ 12 26 hS ?_;refine hVZ 7 21 (.slice (some ⟨b, 0, none⟩) k cap) hS ?_;refine hVZ 15 29 (.slice sa (L - k1) (cap - k1)) hS ?_;clear hrun1 hrun2 wk;refine Op1Z 1 ?_;go_simp;obtain ⟨U, hU⟩ : ∃ U, U = Y.alloc (.cells #[] 99) := ⟨_, rfl⟩
 rw [← hU];have hbU : Below Y.heap.size Y U := by rw [hU]; exact (Below.refl _ _).alloc (Nat.le_refl _) _
 have hsU : U.heap.size = Y.heap.size + 1 := by rw [hU]; simp
 have hmade : U.ownsRow Y.heap.size 99 3 (.slice (some ⟨Y.heap.size, 0, none⟩) 0 0) 0 [] := by rw [hU]; exact ownsRow_nilT Y Y.heap.size 3 (Nat.le_refl _) 99
 have hwY : w.heap.size ≤ Y.heap.size := Nat.le_trans HBV.out.size hdr.size;have hbY : Below w.heap.size w Y := HBV.out.trans (hdr.mono HBV.out.size);have hbwU : Below w.heap.size w U := hbY.trans (hbU.mono hwY);refine ⟨hS.below hbU, ?_⟩;have HBY1 := Hh hbY;have HS9 := Hh hS;clear hS hU;refine Op1Z 8 ?_;refine wp_append_sl U (.tmp 15) (.tmp 21) 64 rfl Y.heap.size 99 iM (.agg #[.int .i64 0, .int .i64 0, .slice none 0 0]) 3 40 Tryz.underlying64 jM jM0 jM1 jM2 rfl (by decide) (.slice (some ⟨Y.heap.size, 0, none⟩) 0 0) 0 [] rfl hmade U.heap.size (some ⟨b, 0, none⟩) k cap ((M.ms.take k).flatMap MMail.cells) rfl ((HS1.out.below hbwU (Nat.le_refl _)).mono hbwU.size) mailsOne (by unfold maxLen; omega) (by omega) (by omega) ?_;intro a8 c8 W8 o8 g8 hat8;simp only [Nat.zero_add, List.nil_append] at o8;have hb8 : Below Y.heap.size Y W8 := by
  refine hbU.trans ⟨g8.os, g8.tape, g8.output, g8.size, fun k hk => g8.block k (by omega) (fun e => ?_)⟩;have e : some Y.heap.size = some k := e.symm;injection e with e; omega
 have hb8w := hbY.trans (hb8.mono hwY);have hS8 := HS9.out.below hb8;refine ⟨hS8, ?_⟩;simp only [Nat.zero_add];refine Op1Z 16 ?_;have hmk : (M.ms.drop k1).length = L - k1 := by rw [List.length_drop, HLQ.out]
 refine wp_append_sl W8 (.tmp 22) (.tmp 29) 64 rfl Y.heap.size 99 iM (.agg #[.int .i64 0, .int .i64 0, .slice none 0 0]) 3 40 Tryz.underlying64 jM jM0 jM1 jM2 rfl (by decide) (.slice a8 k c8) k ((M.ms.take k).flatMap MMail.cells) rfl o8 W8.heap.size sa (L - k1) (cap - k1) ((M.ms.drop k1).flatMap MMail.cells) rfl ((HS2.out.below hb8w (Nat.le_refl _)).mono hb8w.size) mailsOne (by unfold maxLen; omega) (by omega) (by have := g8.size; omega) ?_;intro a16 c16 W16 o16 g16 hat16;have hb16 : Below Y.heap.size Y W16 := by
  refine hb8.trans ⟨g16.os, g16.tape, g16.output, g16.size, fun k hk => g16.block k (by have := hb8.size; omega) (fun e => ?_)⟩;have := (own_lt o8 e.symm).1;omega
 have hb16V : Below V.heap.size V W16 := hdr.trans (hb16.mono hdr.size);have hS16 := HS9.out.below hb16;have hn16 : (M.ms.take k ++ M.ms.drop k1).length = k + (L - k1) := by rw [List.length_append, hmk, List.length_take, ← HLQ.out]; omega
 have hset := HV.out.setBag hb16V (ms' := M.ms.take k ++ M.ms.drop k1) (fun m hm => by
  rcases List.mem_append.1 hm with h9 | h9
  ·exact List.mem_of_mem_take h9
  ·exact List.mem_of_mem_drop h9) hn16 (by rw [List.flatMap_append]; exact World.ownsRow.mono o16 hdr.size)
 have hbg : (M.ms.take k ++ M.ms.drop k1).map MMail.p = G.bag.take k ++ G.bag.drop (k + 1) := by rw [List.map_append, List.map_take, List.map_drop, HV.out.ct.bq, HK1.out]
 rw [hbg] at hset;refine ⟨hS16, ?_⟩;go_simp;refine hTZ 17 31 hS16 ?_;refine hTZ 18 32 hS16 ?_;refine OpL ?_;refine wp_store_cell 64 (.tmp 32) (.tmp 30) rfl g 4 (.slice a16 (k + (L - k1)) c16) _ rfl rfl rfl infoMails1 hS16.c4 ((HV.out.below hb16V).f 4) ?_;obtain ⟨W17, hW17⟩ : ∃ W17, W17 = W16.setCell ⟨g, 4, none⟩ (.slice a16 (k + (L - k1)) c16) := ⟨_, rfl⟩
 rw [← hW17] at hset ⊢;obtain ⟨M1, hM1⟩ : ∃ M1 : GMem, M1 = { M with ra := upd M.ra 4 a16, rc := upd M.rc 4 c16, ms := M.ms.take k ++ M.ms.drop k1 } := ⟨_, rfl⟩
 obtain ⟨G1, hG1⟩ : ∃ G1 : PGroup, G1 = { G with bag := G.bag.take k ++ G.bag.drop (k + 1) } := ⟨_, rfl⟩
 rw [← hM1, ← hG1] at hset;have hwg : w.heap.size ≠ g := fun e => by have := H.out.lt (x := .g) rfl; omega
 have hoth : ∀ x, x ≠ g → W17.heap[x]? = W16.heap[x]? := fun x hx => by rw [hW17]; exact Below.heap_setCell _ _ _ x hx
 have hS17 : DlS g b L cap W16 := hS16;have hrow17 : W17.heap[w.heap.size]? = some (.cells #[.int .i64 f, .int .i64 i, .slice ma (putL x).length mc] 99 (0, 0)) := (hoth _ hwg).trans ((hb16V.block _ (Array.getElem?_eq_some_iff.1 HRV.out).1).trans HRV.out);have HB17 := Hh (show Below B w W17 from (HBV.out.mono H.out.bs).trans ((hb16V.mono HV.out.bs).trans (by rw [hW17]; exact below_set (H.out.inn .g g rfl) _)));have HBY17 := Hh (show ByAt W17 ma mc (putL x) by
  rw [hW17];exact ByAt.store (OwnBs.below (OwnBs.below HBY.out HBV.out) hb16V) (HV.out.below hb16V).row typesO.2.2.1)
 have HG17 := Hh hset;have HROW := Hh hrow17;have HQ1 := Hh (show M1.ps[i]? = some (p, N) by rw [hM1]; exact HQ.out);have HE1 := Hh (show ∀ q : Nat × RMem, M1.ps[c]? = some q → q.2.ps = [] by rw [hM1]; exact HE.out);have HR1 := Hh (show G1.rs[i]? = some R ∧ G1.right = true by rw [hG1]; exact ⟨HR.out, HRT.out⟩);have HCW1 := Hh (show Cw { G1 with rs := G1.rs.set i (R.handle f x) } i n (R.handle f x) by rw [hG1]; exact HCW.out);have HGR := Hh (show { G1 with rs := G1.rs.set i (R.handle f x) } = ({ G with bag := G.bag.take k ++ G.bag.drop (k + 1), rs := G.rs.set i (R.handle f x) } : PGroup) by rw [hG1]);have HWG := Hh hwg;have hD17 : W17.heap.size = W16.heap.size := by rw [hW17]; simp
 clear hset hG1 hM1 hW17 hS17 hrow17 hoth hwg hS16 hn16 hbg hb16 hb16V hmk o16 g16 hat16 o8 g8 hat8 hb8 hb8w hS8 hmade hbU hbwU hbY hwY hsU hdr;obtain ⟨bm, hbm⟩ : ∃ bm, bm = w.heap.size := ⟨_, rfl⟩
 rw [← hbm] at HROW HWG ⊢;have d0 : W17.cell? ⟨bm, 0, none⟩ = some (.int .i64 f) := cell_of_row _ _ 0 _ _ _ HROW.out;have d1 : W17.cell? ⟨bm, 1, none⟩ = some (.int .i64 i) := cell_of_row _ _ 1 _ _ _ HROW.out;have d2 : W17.cell? ⟨bm, 2, none⟩ = some (.slice ma (putL x).length mc) := cell_of_row _ _ 2 _ _ _ HROW.out;have HBM := Hh hbm;clear hbm hD17;go_wp2_with fail;refine (letterRead (putL x) ma (putL x).length mc W17 HBY17.out.1).mono ?_;intro e w18 hrd;have hread : outLet (getLet (putL x)) = (0, some x) := by
  have h9 := getLet_put HX.out [];rw [List.append_nil] at h9;rw [h9]; rfl
 unfold LetTo at hrd;rw [hread] at hrd;obtain ⟨hb18, ia, ic, ms, ba, bc, rfl, hlo⟩ := hrd;have HB18 := Hh hb18;have HLO := Hh hlo;clear hb18 hlo hread d2;have d0 : w18.cell? ⟨bm, 0, none⟩ = some (.int .i64 f) := cell_of_row _ _ 0 _ _ _ ((HB18.out.block _ (Array.getElem?_eq_some_iff.1 HROW.out).1).trans HROW.out);have d1 : w18.cell? ⟨bm, 1, none⟩ = some (.int .i64 i) := cell_of_row _ _ 1 _ _ _ ((HB18.out.block _ (Array.getElem?_eq_some_iff.1 HROW.out).1).trans HROW.out);have HG18 := Hh (HG17.out.below HB18.out);obtain ⟨V, hV⟩ : ∃ V, V = w18.alloc (.cells (lcell x ia ms.length ic ba bc) 32) := ⟨_, rfl⟩
 have hbV : Below w18.heap.size w18 V := by rw [hV]; exact (Below.refl _ _).alloc (Nat.le_refl _) _
 have hrV : V.heap[w18.heap.size]? = some (.cells (lcell x ia ms.length ic ba bc) 32 (0, 0)) := by rw [hV]; exact heap_alloc_new w18 _
 have hlc : w18.alloc (.cells (lcell x ia ms.length ic ba bc) 32) = w18.alloc (.cells #[.int .i64 x.k, .int .i64 x.t, .int .i64 x.a, .int .i64 x.u, .int .i64 x.o, .bool x.y, .slice ia ms.length ic, .slice ba x.b.length bc] 32) := rfl;have HV9 := Hh (hV.trans hlc);have HGV := Hh (HG18.out.below hbV);have HRV9 := Hh hrV;have HBV9 := Hh (HB18.out.trans (hbV.mono HB18.out.size));have HLV := Hh (HLO.out.moved fun k h1 h2 => hbV.block k h2);obtain ⟨lb, hlb⟩ : ∃ lb, lb = w18.heap.size := ⟨_, rfl⟩
 rw [← hlb] at HRV9;have HLB := Hh hlb;clear hV hbV hrV hlc d0 d1;go_upto_region 3 with fail
 rw [← HV9.out, ← HLB.out];clear hlb;have cr : V.cell? ⟨g, 8, none⟩ = some (.bool true) := by rw [← HR1.out.2]; exact HGV.out.cr
 have fr := HGV.out.f 8;obtain ⟨V2, hV2⟩ : ∃ V2, V2 = V.setCell ⟨g, 8, none⟩ (.bool true) := ⟨_, rfl⟩
 have hg2 : GrAt V2 B g c G1 M1 := by
  have h1 := HGV.out.setRight true;have e : ({ G1 with right := true } : PGroup) = G1 := by rw [← HR1.out.2]
  rw [e] at h1;rw [hV2]; exact h1
 have hoth : ∀ x, x ≠ g → V2.heap[x]? = V.heap[x]? := fun x hx => by rw [hV2]; exact Below.heap_setCell _ _ _ x hx
 have hbg18 : g < W17.heap.size := HG17.out.lt (x := .g) rfl;have hlbg : lb ≠ g := fun e => by
  have h9 := HGV.out.row;rw [← e, HRV9.out] at h9;injection h9 with h9; injection h9 with _ h9 _
  exact absurd h9 (by decide)
 have HRV2 := Hh ((hoth _ hlbg).trans HRV9.out);have HROW2 := Hh ((hoth _ HWG.out).trans ((HBV9.out.block _ (Array.getElem?_eq_some_iff.1 HROW.out).1).trans HROW.out));have HL2 := Hh (HLV.out.moved fun k h1 h2 => hoth k (by omega));have HG2 := Hh hg2;have HB2 := Hh (show Below B w V2 from HB17.out.trans ((HBV9.out.mono HG17.out.bs).trans (by rw [hV2]; exact below_set (HGV.out.inn .g g rfl) _)));have HV2 := Hh hV2;clear hV2 hg2 hoth hbg18 hlbg;go_wp2_with fail;rw [← HV2.out];obtain ⟨b0, hb1, hb2, -⟩ := HG2.out.ptr HQ1.out;have hps : M1.ps.length = n := by rw [HG2.out.rl]; have h9 := HCW1.out.rl; simpa using h9
 obtain ⟨e0, e1, e2, e3, e4, e5, e6, e7⟩ := letCells HRV2.out;have HS2 := Hh (show HnS g b0 n (M1.rc 0) i p bm lb f x ia ms.length ic ba bc V2 from ⟨HG2.out.lt (x := .g) rfl, by rw [← hb1, ← hps]; exact HG2.out.cl (i := 0) (by omega), hb2, cell_of_row _ _ 0 _ _ _ HROW2.out, cell_of_row _ _ 1 _ _ _ HROW2.out, e0, e1, e2, e3, e4, e5, e6, e7⟩);have hin : (i : Int) < (n : Int) := by
  have h9 := (List.getElem?_eq_some_iff.1 HQ1.out).1;omega
 have hi0 : (0 : Int) ≤ (i : Int) := by omega
 clear hb2 e0 e1 e2 e3 e4 e5 e6 e7 cr fr;refine OpGZ (S := HnS g b0 n (M1.rc 0) i p bm lb f x ia ms.length ic ba bc) 11 ?_;intro V3 hdr;have hS : HnS g b0 n (M1.rc 0) i p bm lb f x ia ms.length ic ba bc V3 := HS2.out.below hdr;refine hTZ 0 50 hS ?_;refine hTZ 4 54 hS ?_;refine hTZ 8 58 hS ?_;refine hWZ 10 60 (.agg (lcell x ia ms.length ic ba bc)) hS ?_;refine hTZ 1 51 hS ?_;refine hTZ 5 55 hS ?_;refine hTZ 9 59 hS ?_;refine hTZ 2 52 hS ?_;refine hTZ 3 53 hS ?_;refine hTZ 6 56 hS ?_;refine hTZ 7 57 hS ?_;refine OpL ?_;go_simp;have HG3 := Hh ((HG2.out.below hdr).cur HE1.out i);have HL3 := Hh (HL2.out.moved fun k h1 h2 => hdr.block k h2);have HB3 := Hh (HB2.out.trans (hdr.mono HG2.out.bs));have hown : ∀ k, N.own p k → k < w.heap.size := fun k hk => H.out.lt (x := .raft i) ⟨_, HQ.out, hk⟩
 have hw17 : w.heap.size ≤ W17.heap.size := HB17.out.size;have hml : ms.length ≤ 100000 := by
  have h9 := congrArg List.length HL3.out.its;rw [List.length_map] at h9;have h8 := (right_places HX.out).2.2.2.2.2.1;have h8 : x.its.length ≤ 16 := h8;omega
 have hrow3 : V3.heap[bm]? = some (.cells #[.int .i64 f, .int .i64 i, .slice ma (putL x).length mc] 99 (0, 0)) := (hdr.block _ (Array.getElem?_eq_some_iff.1 HROW2.out).1).trans HROW2.out;refine (raftHandle p R N f x ia ic ms ba bc HOK.out hml hnw hou V3 (HG3.out.rf i R (p, N) HR1.out.1 HQ1.out) (HL3.out.far fun k hk => Nat.lt_of_lt_of_le (hown k hk) hw17)).mono ?_;rintro e w4 ⟨rfl, N4, hr4, ht4⟩;have hg4 := HG3.out.putRaft HR1.out.1 HQ1.out hr4 ht4;have hrow4 : w4.heap[bm]? = some (.cells #[.int .i64 f, .int .i64 i, .slice ma (putL x).length mc] 99 (0, 0)) := (ht4.block bm (Array.getElem?_eq_some_iff.1 hrow3).1 (fun h9 => by have := hown bm h9; have := HBM.out; omega)).trans hrow3;have HB4 := Hh (HB3.out.trans (ht4.below (fun k hk => HG3.out.inn (.raft i) k ⟨_, HQ1.out, hk⟩) HG3.out.bs));have HG4 := Hh hg4;have HQ4 := Hh (show ({ M1 with ps := M1.ps.set i (p, N4) } : GMem).ps[i]? = some (p, N4) by show (M1.ps.set i _)[i]? = _; rw [set_get (List.getElem?_eq_some_iff.1 HQ1.out).1, if_pos rfl]);have d1 : w4.cell? ⟨bm, 1, none⟩ = some (.int .i64 i) := cell_of_row _ _ 1 _ _ _ hrow4;clear hr4 ht4 hg4 hrow3 hrow4 hS hdr hml hown;go_wp2_with fail;refine (l18coll HG4.out HQ4.out HCW1.out).mono ?_;rintro e w5 ⟨rfl, M5, N5, h5, q5, n5, b5⟩;have H5 := Hh h5;have HB5 := Hh (HB4.out.trans b5);clear h5 b5;go_wp2_with fail;go_end0;exact ⟨rfl, M5, N5, by rw [← HGR.out]; exact H5.out, q5, n5, HB5.out⟩
end
end Go.Proofs.YtogcnfhmcpkdcaaGreat
