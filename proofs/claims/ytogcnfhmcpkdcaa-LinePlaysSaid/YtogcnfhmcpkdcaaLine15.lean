/-
  Contract of the reference's Drop of a line.
-/
import Derived.Test.YtogcnfhmcpkdcaaLine13
namespace Go.Proofs.Ytogcnfhmcpkdcaa
open Go.RowKit
set_option linter.unusedVariables false
set_option linter.unusedSimpArgs false

/-- a slice that is as it was, or lies in a block of the call's own -/
def Fresh (w W : World) (a a' : Option Addr) : Prop := a' = a ∨ ∀ ad, a' = some ad → w.heap.size ≤ ad.block ∧ ad.block < W.heap.size
theorem Fresh.own {w W : World} {N T size n c k : Nat} {a a' : Option Addr} {cs : List Value} (h : W.ownsRow N T size (.slice a' n c) k cs) (hN : w.heap.size ≤ N) : Fresh w W a a' :=
  .inr fun ad e => by
    subst e
    have h9 := own_lt h (g := ad.block) rfl
    exact ⟨by omega, h9.2⟩

theorem infoRLine : (Try.prog.info? 88).map (·.size) = some 3 := by kernel_rfl

set_option maxRecDepth 100000 in
set_option maxHeartbeats 1000000 in
theorem r17Drop (x : PLine) (hg : x.Good) (a : Option Addr) (c : Nat) (ms : List MItem) (i : Int) (w : World) (h : RAt w w.heap.size x a c ms) :
    Calls Try.prog 55 #[rv x a ms.length c, .int .i64 i] w fun e w' => ∃ a' c' ms', e = .returned (.tuple #[rv (x.drop i).1 a' ms'.length c', .bool (x.drop i).2]) ∧ RAt w' w'.heap.size (x.drop i).1 a' c' ms' ∧ Below w.heap.size w w' ∧ Fresh w w' a a' ∧ ∀ m ∈ ms', m ∈ ms := by
  obtain ⟨i0, hi, hz0, hz1, hz2⟩ := info_parts infoItem3
  have hl := h.len
  have h1 := hg.b0
  have h2 := hg.b1
  have h3 := hg.n1
  have hn4 : (ms.length : Int) ≤ 4096 := by omega
  have htg := hg.tm_ge i
  have hlast : x.last = x.base + (x.l.length : Int) := rfl
  have H := Lib.hid h
  obtain ⟨W1, hW1⟩ : ∃ W1, W1 = (w.alloc (.cells #[.int .i64 x.base, .int .i64 x.term, .slice a ms.length c] 88)).alloc (.cells #[.int .i64 0, .int .i64 0, .slice none 0 0] 88) := ⟨_, rfl⟩
  have hs1 : W1.heap.size = w.heap.size + 2 := by rw [hW1]; simp
  have hbW : Below w.heap.size w W1 := by rw [hW1]; exact ((Below.refl _ w).alloc (Nat.le_refl _) _).alloc (by simp) _
  have hr0 : W1.heap[w.heap.size]? = some (.cells #[.int .i64 x.base, .int .i64 x.term, .slice a ms.length c] 88 (0, 0)) := by
    rw [hW1]
    exact (((Below.refl _ _).alloc (Nat.le_refl (w.alloc (.cells #[.int .i64 x.base, .int .i64 x.term, .slice a ms.length c] 88)).heap.size) _).block _ (by simp)).trans (heap_alloc_new w _)
  have hr1 : W1.heap[w.heap.size + 1]? = some (.cells #[.int .i64 0, .int .i64 0, .slice none 0 0] 88 (0, 0)) := by
    rw [hW1]
    have := heap_alloc_new (w.alloc (.cells #[.int .i64 x.base, .int .i64 x.term, .slice a ms.length c] 88)) (.cells #[.int .i64 0, .int .i64 0, .slice none 0 0] 88)
    simpa using this
  have HW1 := Lib.hid hW1
  have HBW := Lib.hid hbW
  have HR0 := Lib.hid hr0
  have HR1 := Lib.hid hr1
  obtain ⟨R, hR⟩ : ∃ R, x.tm i = R := ⟨_, rfl⟩
  have HR := Lib.hid hR
  by_cases ht : R < 0
  · have hE : x.drop i = (x, false) := by rw [PLine.drop, hR, if_pos ht]
    rw [hE]
    have t1 : decide (R < 0) = true := by simpa using ht
    clear h hl h3 htg hlast hW1 hbW hr0 hr1 hR ht hE
    go_enter Try.func55, Try.ntmps55
    go_wp2_with fail
    rw [← HW1.out]
    refine (r17At x hg a c ms i _ ((H.out.below HBW.out (Nat.le_refl _)).mono (by omega))).mono ?_
    rintro e w3 ⟨rfl, hb3⟩
    rw [HR.out]
    have hs3 := hb3.size
    have hd0 := (hb3.block w.heap.size (by omega)).trans HR0.out
    have HD1 := Lib.hid ((hb3.block (w.heap.size + 1) (by omega)).trans HR1.out)
    have d0 : w3.cell? ⟨w.heap.size, 0, none⟩ = some (.int .i64 x.base) := cell_of_row w3 w.heap.size 0 _ _ _ hd0
    have d1 : w3.cell? ⟨w.heap.size, 1, none⟩ = some (.int .i64 x.term) := cell_of_row w3 w.heap.size 1 _ _ _ hd0
    have d2 : w3.cell? ⟨w.heap.size, 2, none⟩ = some (.slice a ms.length c) := cell_of_row w3 w.heap.size 2 _ _ _ hd0
    have HB3 := Lib.hid (HBW.out.trans (hb3.mono (by omega)))
    clear hb3 hd0
    go_wp2_with (refine wpList_store_abs rfl 88 (.tmp 4) (.tmp 12) rfl (w.heap.size + 1) #[.int .i64 x.base, .int .i64 x.term, .slice a ms.length c] rfl rfl 88 _ HD1.out infoRLine rfl (by simp [Value.oneCell']) ?_; intro W5 hrow5 hoth5 hb5 hs5)
    have hb5' := HB3.out.trans (hb5.mono (show w.heap.size ≤ w.heap.size + 1 by omega))
    refine bodyPost_ret (results_row_tmp rfl _ _ (w.heap.size + 1) 88 _ (0, 0) _ rfl hrow5 Try.underlying88 rfl infoRLine) rfl ⟨a, c, ms, rfl, (H.out.below hb5' (Nat.le_refl _)).mono (by omega), hb5', .inl rfl, fun m hm => hm⟩
  · have hE : x.drop i = (⟨i, R, x.l.drop (i - x.base).toNat⟩, true) := by rw [PLine.drop, hR, if_neg ht]
    rw [hE]
    rw [hR] at htg
    have hin := htg.1 (by omega)
    obtain ⟨K, hK⟩ : ∃ K : Nat, i - x.base = K := ⟨(i - x.base).toNat, by omega⟩
    have hKn : K ≤ ms.length := by omega
    have hKt : (i - x.base).toNat = K := by omega
    rw [hKt]
    have wK : IntKind.i64.wrap (K : Int) = K := IntWalk.i64_in _ (by omega)
    have hK0 : (0 : Int) ≤ K := by omega
    have hK1 : (K : Int) ≤ (ms.length : Int) := by omega
    obtain ⟨A, hA⟩ : ∃ A, (if c = K then a else Option.map (fun x => x.add (K * 2)) a) = A := ⟨_, rfl⟩
    have hits : ItemsAt w w.heap.size A (ms.length - K) (c - K) (ms.drop K) := by
      have hf := h.its.from_ (k := K) (by omega)
      rw [← hA]
      exact hf
    have HITS := Lib.hid hits
    have t1 : decide (R < 0) = false := by simpa using ht
    clear h hl h3 htg hlast hW1 hbW hr0 hr1 hR ht hE hits hin hKt
    go_enter Try.func55, Try.ntmps55
    go_wp2_with fail
    rw [← HW1.out]
    refine (r17At x hg a c ms i _ ((H.out.below HBW.out (Nat.le_refl _)).mono (by omega))).mono ?_
    rintro e w3 ⟨rfl, hb3⟩
    rw [HR.out]
    have hs3 := hb3.size
    have hd0 := (hb3.block w.heap.size (by omega)).trans HR0.out
    have hbA : Below w3.heap.size w3 (w3.alloc (.cells #[] 45)) := (Below.refl _ _).alloc (Nat.le_refl _) _
    have HD1 := Lib.hid ((hbA.block (w.heap.size + 1) (by omega)).trans ((hb3.block (w.heap.size + 1) (by omega)).trans HR1.out))
    have d0 : w3.cell? ⟨w.heap.size, 0, none⟩ = some (.int .i64 x.base) := cell_of_row w3 w.heap.size 0 _ _ _ hd0
    have d1 : w3.cell? ⟨w.heap.size, 1, none⟩ = some (.int .i64 x.term) := cell_of_row w3 w.heap.size 1 _ _ _ hd0
    have d2 : w3.cell? ⟨w.heap.size, 2, none⟩ = some (.slice a ms.length c) := cell_of_row w3 w.heap.size 2 _ _ _ hd0
    have HB3 := Lib.hid (HBW.out.trans (hb3.mono (by omega)))
    have HSL := Lib.hid (show SlAt (w3.alloc (.cells #[] 45)) (w3.heap.size + 1) 2 A (ms.length - K) (c - K) (cellsM (ms.drop K)) from ((HITS.out.below (HB3.out.trans (hbA.mono (show w.heap.size ≤ w3.heap.size by omega))) (Nat.le_refl _)).mono (by omega)).sl)
    have HNB := Lib.hid (show some (w.heap.size + 1) ≠ (Value.slice (some ⟨w3.heap.size, 0, none⟩) 0 0).ownBlock from fun e9 => by
      simp [Value.ownBlock] at e9
      omega)
    have hlt3 : w.heap.size < w3.heap.size := by omega
    clear hb3 hd0 hbA
    go_wp2_with (first
      | (at_builtin; go_must (refine wpList_append_sl _ rfl (.tmp 15) (.tmp 22) 49 rfl w3.heap.size 45 i0 (.agg #[.int .i64 0, .slice none 0 0]) 2 32 Try.underlying49 hi hz0 hz1 hz2 rfl (by decide) _ 0 [] rfl (ownsRow_nilT w3 w3.heap.size 2 (Nat.le_refl _) 45) (w3.heap.size + 1) A (ms.length - K) (c - K) (cellsM (ms.drop K)) rfl HSL.out (cellsM_one _) (by unfold maxLen; omega) (by omega) (by simp) ?_); intro a5 c5 w5 hown5 hgrow5 hat5)
      | (refine wpList_store_abs rfl 88 (.tmp 4) (.tmp 24) rfl (w.heap.size + 1) #[.int .i64 i, .int .i64 R, .slice a5 (ms.length - K) c5] rfl rfl 88 _ ((hgrow5.block (w.heap.size + 1) (by simp; omega) HNB.out).trans HD1.out) infoRLine rfl (by simp [Value.oneCell']) ?_; intro W5 hrow5 hoth5 hb5 hs5))
    simp only [Nat.zero_add, List.nil_append] at hown5
    have hb5a : Below w3.heap.size w3 w5 := ((Below.refl _ w3).alloc (Nat.le_refl _) (.cells #[] 45)).grown hgrow5 (by simp) (fun k hk => (own_lt (ownsRow_nilT w3 w3.heap.size 2 (Nat.le_refl _) 45) hk).1)
    have hs5a := hb5a.size
    have hbF : Below w.heap.size w W5 := HB3.out.trans ((hb5a.mono (by omega)).trans (hb5.mono (show w.heap.size ≤ w.heap.size + 1 by omega)))
    have hownF : W5.ownsRow w3.heap.size 45 2 (.slice a5 (ms.length - K) c5) (ms.length - K) (cellsM (ms.drop K)) := World.ownsRow.kept hown5 (row := some (w.heap.size + 1)) ⟨hb5.os, hb5.tape, hb5.output, by omega, fun k hk hne => hoth5 k (fun e => hne (by rw [e]))⟩ (.inr fun e => by have h9 := (own_lt hown5 e).1; omega)
    refine bodyPost_ret (results_row_tmp rfl _ _ (w.heap.size + 1) 88 _ (0, 0) _ rfl hrow5 Try.underlying88 rfl infoRLine) rfl ⟨a5, c5, ms.drop K, by simp, ⟨?_, by rw [List.map_drop, H.out.eq]⟩, hbF, Fresh.own hownF (by omega), fun m hm => List.mem_of_mem_drop hm⟩
    obtain ⟨a', c', e, hs⟩ := SlAt.ofOwns hownF
    injection e with e1 _ e2
    subst e1 e2
    rw [show (ms.drop K).length = ms.length - K by simp]
    exact ⟨hs, fun m hm => ((HITS.out.bs m hm).below hbF (Nat.le_refl _)).mono hbF.size⟩
end Go.Proofs.Ytogcnfhmcpkdcaa
