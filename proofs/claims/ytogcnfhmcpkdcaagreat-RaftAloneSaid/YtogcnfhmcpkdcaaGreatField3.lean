/-
  Contracts of Eye.Text, Eye.Id; of the closure that field.Read defers; of field.Read.
-/
import Derived.Test.YtogcnfhmcpkdcaaGreatField2
import Derived.Defers
import Derived.Recover
namespace Go.Proofs.YtogcnfhmcpkdcaaGreat
open Go.RowKit
set_option linter.unusedVariables false

theorem readIdle (rb : Nat) (w : World) :
    CallsD Tryz.prog 114 #[.pointer (some ⟨rb, 0, none⟩)] .returning w fun e u' w' => e = .returned (.tuple #[]) ∧ u' = .returning ∧ w = w' := by
  have q20 : ∀ w : World, (binOp BinOp.eql 20 .nilIface .nilIface).run Tryz.prog w = .ok (.bool true) w := fun _ => by kernel_rfl
  refine callsD_of_wpS Tryz.func114 rfl fun c₀ cs hu => ?_
  apply wpS_seq
  apply wpS_region
  simp [wpOpsS, go_sem, recoverD, hu, Tryz.ntmps114, Exit.thenS]
  apply wpS_seq
  apply wpS_seq
  apply wpS_region
  simp [wpOpsS, go_sem, Exit.thenS, q20]
  refine wpS_cond (t := true) (by simp [Act.eval, Array.replicate]) ?_
  simp only [if_true]
  refine wpS_of_wp (wp_ret ?_)
  cases c₀
  simp_all [bodyPostS, results, Tryz.results114, Exit.thenS]

set_option maxRecDepth 100000 in
theorem readCaught (rb : Nat) (x : Int) (v : Value) (w : World) (hrb : rb < w.heap.size) (hc : w.cell? ⟨rb, 0, none⟩ = some v) (hz : w.frozen? ⟨rb, 0, none⟩ = false) :
    CallsD Tryz.prog 114 #[.pointer (some ⟨rb, 0, none⟩)] (.panicking [{ v := .iface 149 (.agg #[.int .i64 x]), recovered := false }]) w fun e u' w' =>
      e = .returned (.tuple #[]) ∧ u' = .panicking [{ v := .iface 149 (.agg #[.int .i64 x]), recovered := true }] ∧ w'.cell? ⟨rb, 0, none⟩ = some (.int .i64 x) ∧ But rb w w' := by
  refine callsD_of_wpS Tryz.func114 rfl fun c₀ cs hu => ?_
  apply wpS_seq
  apply wpS_region
  simp [wpOpsS, go_sem, recoverD, hu, Tryz.ntmps114, Exit.thenS]
  apply wpS_seq
  apply wpS_seq
  apply wpS_region
  simp [wpOpsS, go_sem, Exit.thenS]
  refine wpS_cond (t := false) (by simp [Act.eval, Array.replicate]) ?_
  simp only [Bool.false_eq_true, if_false]
  refine wpS_of_wp (wp_skip ?_)
  simp only [Exit.thenS]
  refine wpS_of_wp ?_
  have hta : ∀ (w : World) (v : Value), Sem.run Tryz.prog (Instr.typeAssert (.iface 149 v) 20 149 true) w = .ok (.tuple #[v, .bool true]) w := fun _ _ => by kernel_rfl
  simp [Array.replicate]
  go_wp2
  refine ⟨rfl, _, rfl, .tuple #[], by simp [results, Tryz.results114, go_sem], rfl, rfl, ?_, ?_⟩
  · exact (World.cell?_alloc_past _ _ _ (by simpa using hrb)).trans (World.cell?_setCell_same _ _ _ hc)
  · exact (But.setCell _ _ _).trans (But.ofBelow (by simpa using hrb) ((Below.refl _ _).alloc (Nat.le_refl _) _))

/-- the eye at block q has so many bytes left -/
def EyeLen (w : World) (q n : Nat) : Prop := q < w.heap.size ∧ ∃ a c, w.cell? ⟨q, 0, none⟩ = some (.slice a n c)

theorem EyeAt.len {w : World} {q : Nat} {l : List UInt8} (h : EyeAt w q l) : EyeLen w q l.length := by
  obtain ⟨hq, a, n, c, h1, _, h3⟩ := h
  have := h3.hlen
  subst this
  exact ⟨hq, a, c, h1⟩

theorem eyeLeft' (q n : Nat) (w : World) (h : EyeLen w q n) :
    Calls Tryz.prog 115 #[.pointer (some ⟨q, 0, none⟩)] w fun e w' => e = .returned (.int .i64 n) ∧ w = w' := by
  obtain ⟨hq, a, c, hp⟩ := h
  go_enter Tryz.func115, Tryz.ntmps115
  go_wp2
  go_ret
  exact ⟨rfl, rfl⟩

/-- what a reading function leaves behind: a panic with an error, or an eye with a rest -/
def Left (q : Nat) (e : Ending) (w' : World) (x : Int) : Prop :=
  (e = broke x ∧ x ≠ 0) ∨ (e = .returned (.tuple #[]) ∧ ∃ rest : List UInt8, EyeLen w' q rest.length ∧ x = if rest = [] then 0 else 3)

theorem enterOf {P : Program} {f : FuncId} {fn : Func} {c : Code} (hf : P.funcs[f]? = some fn) (hname : (fn.name == "runtime.NumGoroutine") = false) (hb : fn.body = some c) (args : Array Value) (w : World) :
    Sem.run P (callFunc f args) w = .ok (.enter f args) w := by
  have h1 : fn.name ≠ "runtime.NumGoroutine" := by simpa using hname
  simp [callFunc, hf, h1, hb]

theorem EyeAt.fresh {w : World} {a : Option Addr} {n c : Nat} {l : List UInt8} (h : BsAt w w.heap.size a n c l) (t : TypeId) : EyeAt (w.alloc (.cells #[.slice a n c] t)) w.heap.size l :=
  ⟨by simp, a, n, c, by simp [go_sem], by simp [go_sem], (h.below ((Below.refl _ w).alloc (Nat.le_refl _) _) (Nat.le_refl _)).mono (by simp)⟩

set_option maxHeartbeats 2000000 in
set_option maxRecDepth 100000 in
theorem fieldRead (l : List UInt8) (a : Option Addr) (n c : Nat) (f : FuncId) (hf : ∀ args w, Sem.run Tryz.prog (callFunc f args) w = .ok (.enter f args) w) (first cap : Array Value) (w : World) (h : BsAt w w.heap.size a n c l)
    (R : Nat → World → World → Int → Prop)
    (hdo : ∀ q w1, Below w.heap.size w w1 → w.heap.size < q → EyeAt w1 q l → Calls Tryz.prog f (first.push (.pointer (some ⟨q, 0, none⟩)) ++ cap) w1 fun e w' => w1.heap.size ≤ w'.heap.size ∧ (∀ k, w.heap.size ≤ k → k < w1.heap.size → k ≠ q → w'.heap[k]? = w1.heap[k]?) ∧ ∃ x, Left q e w' x ∧ R q w1 w' x) :
    Calls Tryz.prog 90 #[.slice a n c, .func (.func f) first cap] w fun e w2 => ∃ q w1 w' x rb, e = .returned (.int .i64 x) ∧ Below w.heap.size w w1 ∧ w.heap.size < q ∧ q < w1.heap.size ∧ w.heap.size ≤ rb ∧ rb < w1.heap.size ∧ rb ≠ q ∧ R q w1 w' x ∧ But rb w' w2 := by
  have hmf : ∀ (fn : Fn) (first cap : Array Value) (w : World), (Instr.makeFunc fn first cap).run Tryz.prog w = .ok (.func fn first cap) w := fun _ _ _ _ => rfl
  have HDO := Lib.hid hdo
  clear hdo
  have hb0 : Below w.heap.size w (w.alloc (.cells #[.int .i64 0] 36)) := (Below.refl _ w).alloc (Nat.le_refl _) _
  have h1 : BsAt (w.alloc (.cells #[.int .i64 0] 36)) (w.alloc (.cells #[.int .i64 0] 36)).heap.size a n c l := (h.below hb0 (Nat.le_refl _)).mono hb0.size
  have HB0 := Lib.hid hb0
  have H1 := Lib.hid h1
  clear hb0 h1 h
  go_enter_defers Tryz.func90, Tryz.ntmps90
  go_wp2_with fail
  refine (cloneB l a n c _ H1.out).mono ?_
  rintro e w1 ⟨a1, c1, rfl, hbs, hb1, -⟩
  have hs1 : w.heap.size < w1.heap.size := by have := hb1.size; simp at this; omega
  have hr1 : w1.cell? ⟨w.heap.size, 0, none⟩ = some (.int .i64 0) := by rw [hb1.cell (p := ⟨w.heap.size, 0, none⟩) (by simp)]; simp [go_sem]
  have hr2 : w1.frozen? ⟨w.heap.size, 0, none⟩ = false := by rw [hb1.frozen (p := ⟨w.heap.size, 0, none⟩) (by simp)]; simp [go_sem]
  have hbel : Below w.heap.size w w1 := HB0.out.trans (hb1.mono (by simp))
  have heye := EyeAt.fresh hbs 151
  have hbel1 : Below w.heap.size w (w1.alloc (.cells #[.slice a1 n c1] 151)) := hbel.trans ((Below.refl _ w1).alloc (by omega) _)
  have HBEL := Lib.hid hbel1
  clear hbel hb1 hbel1 hbs
  have HR := Lib.hid (HDO.out w1.heap.size _ HBEL.out hs1 heye)
  clear heye
  go_wp2_with fail
  refine HR.out.mono ?_
  rintro e w2 ⟨hsz, hkeep, x, hleft, hR⟩
  simp only [World.size_alloc] at hsz
  have hblk : w2.heap[w.heap.size]? = w1.heap[w.heap.size]? := (hkeep w.heap.size (Nat.le_refl _) (by simp; omega) (by omega)).trans (Below.heap_alloc _ _ _ hs1)
  have hr3 : w2.cell? ⟨w.heap.size, 0, none⟩ = some (.int .i64 0) := (World.cell?_of_block hblk).trans hr1
  have hr4 : w2.frozen? ⟨w.heap.size, 0, none⟩ = false := (World.frozen?_of_block hblk).trans hr2
  have hs2 : w.heap.size < w2.heap.size := by omega
  have HRR := Lib.hid hR
  clear hkeep hblk hR hr1 hr2
  rcases hleft with ⟨rfl, hx0⟩ | ⟨rfl, rest, heye, hx⟩
  · have hx1 := Lib.hid hx0
    clear hx0
    go_wp2_with fail
    refine leaves_cons (f := 114) (args := #[.pointer (some ⟨w.heap.size, 0, none⟩)]) (by simp) (by simp [go_sem]) ?_
    refine (readCaught w.heap.size x _ w2 hs2 hr3 hr4).mono ?_
    rintro e u' w3 ⟨rfl, rfl, hc, hbut⟩
    exact ⟨.int .i64 x, by simp [results, Tryz.results90, go_sem, hc], _, _, _, _, _, rfl, HBEL.out, hs1, by simp, Nat.le_refl _, by simp; omega, by omega, HRR.out, hbut⟩
  · have HX := Lib.hid hx
    clear hx
    go_wp2_with fail
    refine (eyeLeft' _ _ _ heye).mono ?_
    rintro e w3 ⟨rfl, rfl⟩
    by_cases hre : rest = []
    · have t1 : decide (0 < rest.length) = false := by simp [hre]
      have hx : x = 0 := by rw [HX.out, if_pos hre]
      subst hx
      clear hre
      go_wp2_with fail
      refine leaves_cons (f := 114) (args := #[.pointer (some ⟨w.heap.size, 0, none⟩)]) (by simp) (by simp [go_sem]) ?_
      refine (readIdle w.heap.size _).mono ?_
      rintro e u' w3 ⟨rfl, rfl, rfl⟩
      exact ⟨.int .i64 0, by simp [results, Tryz.results90, go_sem, World.cell?_setCell_same _ _ _ hr3], _, _, _, _, _, rfl, HBEL.out, hs1, by simp, Nat.le_refl _, by simp; omega, by omega, HRR.out, But.setCell _ _ _⟩
    · have t1 : decide (0 < rest.length) = true := by
        cases rest with
        | nil => exact absurd rfl hre
        | cons y ys => simp
      have hx : x = 3 := by rw [HX.out, if_neg hre]
      subst hx
      clear hre
      go_wp2_with fail
      refine leaves_cons (f := 114) (args := #[.pointer (some ⟨w.heap.size, 0, none⟩)]) (by simp) (by simp [go_sem]) ?_
      refine (readIdle w.heap.size _).mono ?_
      rintro e u' w3 ⟨rfl, rfl, rfl⟩
      exact ⟨.int .i64 3, by simp [results, Tryz.results90, go_sem, World.cell?_setCell_same _ _ _ hr3], _, _, _, _, _, rfl, HBEL.out, hs1, by simp, Nat.le_refl _, by simp; omega, by omega, HRR.out, But.setCell _ _ _⟩
end Go.Proofs.YtogcnfhmcpkdcaaGreat
