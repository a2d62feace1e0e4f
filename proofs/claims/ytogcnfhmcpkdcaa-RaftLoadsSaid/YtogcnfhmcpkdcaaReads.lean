/-
  A reading function, and field.Read over it: what it comes to, as the plain reading says.
-/
import Derived.Test.YtogcnfhmcpkdcaaField3
import Derived.Test.YtogcnfhmcpkdcaaNumM
import Derived.Laws.AppendOwn
namespace Go.Proofs.Ytogcnfhmcpkdcaa
open Go.RowKit
set_option linter.unusedVariables false

/-- a reading function comes to this: the eye at block q, and what it fills in at block p, alone are turned -/
structure ReadsTo {α : Type} (q p : Nat) (r : Res α) (w w' : World) (e : Ending) (is : α → Prop) : Prop where
  os : w'.os = w.os
  tape : w'.tape = w.tape
  output : w'.output = w.output
  size : w.heap.size ≤ w'.heap.size
  block : ∀ k, k < w.heap.size → k ≠ q → k ≠ p → w'.heap[k]? = w.heap[k]?
  bad : ∀ x, r = .err x → e = broke x
  good : ∀ v rest, r = .ok v rest → e = .returned (.tuple #[]) ∧ EyeLen w' q rest.length ∧ is v

theorem ReadsTo.of_err {α : Type} {q p : Nat} {w w' : World} {x : Int} {is : α → Prop} (os : w'.os = w.os) (tape : w'.tape = w.tape) (output : w'.output = w.output) (size : w.heap.size ≤ w'.heap.size)
    (block : ∀ k, k < w.heap.size → k ≠ q → k ≠ p → w'.heap[k]? = w.heap[k]?) : ReadsTo q p (.err x : Res α) w w' (broke x) is :=
  ⟨os, tape, output, size, block, fun _ h => by cases h; rfl, fun _ _ h => by cases h⟩

theorem ReadsTo.of_but {α : Type} {q p : Nat} {w w' : World} {x : Int} {is : α → Prop} (h : But q w w') : ReadsTo q p (.err x : Res α) w w' (broke x) is :=
  .of_err h.os h.tape h.output h.size fun k hk hq _ => h.block k hk hq

theorem fieldReadTo {α : Type} (r : Res α) (hs : r.sane) (l : List UInt8) (a : Option Addr) (n c : Nat) (f : FuncId) (hf : ∀ args w, Sem.run Try.prog (callFunc f args) w = .ok (.enter f args) w) (first cap : Array Value) (p : Nat) (w : World)
    (hp : p < w.heap.size) (h : BsAt w w.heap.size a n c l) (is : World → World → α → Prop)
    (hdo : ∀ q w1, Below w.heap.size w w1 → w.heap.size < q → EyeAt w1 q l → Calls Try.prog f (first.push (.pointer (some ⟨q, 0, none⟩)) ++ cap) w1 fun e w' => ReadsTo q p r w1 w' e (is w1 w')) :
    Calls Try.prog 26 #[.slice a n c, .func (.func f) first cap] w fun e w2 => e = .returned (.int .i64 r.code) ∧ w.grownBy w2 (some p) ∧
      ∀ v, r = .ok v [] → ∃ w1 w' rb, w.heap.size ≤ rb ∧ rb < w1.heap.size ∧ w1.heap.size ≤ w'.heap.size ∧ Below w.heap.size w w1 ∧ is w1 w' v ∧ But rb w' w2 := by
  refine (fieldRead l a n c f hf first cap w h (fun q w1 w' x => x = r.code ∧ w1.heap.size ≤ w'.heap.size ∧ (∀ k, k < w1.heap.size → k ≠ q → k ≠ p → w'.heap[k]? = w1.heap[k]?) ∧ w'.os = w1.os ∧ w'.tape = w1.tape ∧ w'.output = w1.output ∧ ∀ v, r = .ok v [] → is w1 w' v) ?_).mono ?_
  · intro q w1 hb hq he
    have hp1 : p < w1.heap.size := Nat.lt_of_lt_of_le hp hb.size
    refine (hdo q w1 hb hq he).mono ?_
    rintro e w' hr
    refine ⟨hr.size, fun k h1 h2 h3 => hr.block k h2 h3 (by omega), r.code, ?_, rfl, hr.size, hr.block, hr.os, hr.tape, hr.output, fun v hv => (hr.good v [] hv).2.2⟩
    cases hR : r with
    | err x => exact .inl ⟨hr.bad x hR, hs x hR⟩
    | ok v rest =>
      obtain ⟨h1, h2, _⟩ := hr.good v rest hR
      exact .inr ⟨h1, rest, h2, rfl⟩
  · rintro e w2 ⟨q, w1, w', x, rb, rfl, hb, hq1, hq2, hr1, hr2, hrq, ⟨rfl, hsz, hblk, ho, ht, hu, his⟩, hbut⟩
    have hb1 := hb.size
    have hsz2 := hbut.size
    refine ⟨rfl, ⟨hbut.os.trans (ho.trans hb.os), hbut.tape.trans (ht.trans hb.tape), hbut.output.trans (hu.trans hb.output), by omega, fun k hk hne => ?_⟩, fun v hv => ⟨w1, w', rb, hr1, hr2, hsz, hb, his v hv, hbut⟩⟩
    exact (hbut.block k (by omega) (by omega)).trans ((hblk k (by omega) (by omega) (fun e => hne (by rw [e]))).trans (hb.block k hk))
end Go.Proofs.Ytogcnfhmcpkdcaa
