/-
  A reading function, and field.Read over it: what it comes to, as the plain reading says.
  Rows and lines behind a turning of other blocks.
-/
import Derived.Test.YtogcnfhmcpkdcaaGreatFieldM
import Derived.Test.YtogcnfhmcpkdcaaGreatNumM
import Derived.Test.YtogcnfhmcpkdcaaGreatLine2
import Derived.Laws.AppendOwn
namespace Go.Proofs.YtogcnfhmcpkdcaaGreat
open Go.RowKit
set_option linter.unusedVariables false
structure ReadsTo {α : Type} (q p : Nat) (r : Res α) (w w' : World) (e : Ending) (is : α → Prop) : Prop where
 os : w'.os = w.os
 tape : w'.tape = w.tape
 output : w'.output = w.output
 size : w.heap.size ≤ w'.heap.size
 block : ∀ k, k < w.heap.size → k ≠ q → k ≠ p → w'.heap[k]? = w.heap[k]?
 bad : ∀ x, r = .err x → e = broke x
 good : ∀ v rest, r = .ok v rest → e = .returned (.tuple #[]) ∧ EyeLen w' q rest.length ∧ is v
theorem ReadsTo.of_err {α : Type} {q p : Nat} {w w' : World} {x : Int} {is : α → Prop} (os : w'.os = w.os) (tape : w'.tape = w.tape) (output : w'.output = w.output) (size : w.heap.size ≤ w'.heap.size)
  (block : ∀ k, k < w.heap.size → k ≠ q → k ≠ p → w'.heap[k]? = w.heap[k]?) : ReadsTo q p (.err x : Res α) w w' (broke x) is :=
 ⟨os, tape, output, size, block, fun _ h => by cases h; rfl, fun _ _ h => by cases h⟩
theorem ReadsTo.of_but {α : Type} {q p : Nat} {w w' : World} {x : Int} {is : α → Prop} (h : But q w w') : ReadsTo q p (.err x : Res α) w w' (broke x) is :=
 .of_err h.os h.tape h.output h.size fun k hk hq _ => h.block k hk hq
theorem fieldReadTo {α : Type} (r : Res α) (hs : r.sane) (l : List UInt8) (a : Option Addr) (n c : Nat) (f : FuncId) (hf : ∀ args w, Sem.run Tryz.prog (callFunc f args) w = .ok (.enter f args) w) (first cap : Array Value) (p : Nat) (w : World)
  (hp : p < w.heap.size) (h : BsAt w w.heap.size a n c l) (is : World → World → α → Prop)
  (hdo : ∀ q w1, Below w.heap.size w w1 → w.heap.size < q → EyeAt w1 q l → Calls Tryz.prog f (first.push (.pointer (some ⟨q, 0, none⟩)) ++ cap) w1 fun e w' => ReadsTo q p r w1 w' e (is w1 w')) :
  Calls Tryz.prog 90 #[.slice a n c, .func (.func f) first cap] w fun e w2 => e = .returned (.int .i64 r.code) ∧ w.grownBy w2 (some p) ∧
   ∀ v, r = .ok v [] → ∃ w1 w' rb, w.heap.size ≤ rb ∧ rb < w1.heap.size ∧ w1.heap.size ≤ w'.heap.size ∧ Below w.heap.size w w1 ∧ is w1 w' v ∧ But rb w' w2 := by
 refine (fieldRead l a n c f hf first cap w h (fun q w1 w' x => x = r.code ∧ w1.heap.size ≤ w'.heap.size ∧ (∀ k, k < w1.heap.size → k ≠ q → k ≠ p → w'.heap[k]? = w1.heap[k]?) ∧ w'.os = w1.os ∧ w'.tape = w1.tape ∧ w'.output = w1.output ∧ ∀ v, r = .ok v [] → is w1 w' v) ?_).mono ?_
 ·intro q w1 hb hq he;have hp1 : p < w1.heap.size := Nat.lt_of_lt_of_le hp hb.size;refine (hdo q w1 hb hq he).mono ?_;rintro e w' hr;refine ⟨hr.size, fun k h1 h2 h3 => hr.block k h2 h3 (by omega), r.code, ?_, rfl, hr.size, hr.block, hr.os, hr.tape, hr.output, fun v hv => (hr.good v [] hv).2.2⟩;cases hR : r with
  | err x => exact .inl ⟨hr.bad x hR, hs x hR⟩
  | ok v rest =>
   obtain ⟨h1, h2, _⟩ := hr.good v rest hR;exact .inr ⟨h1, rest, h2, rfl⟩
 ·rintro e w2 ⟨q, w1, w', x, rb, rfl, hb, hq1, hq2, hr1, hr2, hrq, ⟨rfl, hsz, hblk, ho, ht, hu, his⟩, hbut⟩;have hb1 := hb.size;have hsz2 := hbut.size;refine ⟨rfl, ⟨hbut.os.trans (ho.trans hb.os), hbut.tape.trans (ht.trans hb.tape), hbut.output.trans (hu.trans hb.output), by omega, fun k hk hne => ?_⟩, fun v hv => ⟨w1, w', rb, hr1, hr2, hsz, hb, his v hv, hbut⟩⟩;exact (hbut.block k (by omega) (by omega)).trans ((hblk k (by omega) (by omega) (fun e => hne (by rw [e]))).trans (hb.block k hk))
end Go.Proofs.YtogcnfhmcpkdcaaGreat
namespace Go.Proofs.YtogcnfhmcpkdcaaGreat
open Go.RowKit
set_option linter.unusedVariables false
set_option linter.unusedSimpArgs false
theorem own_moved {w w' : World} {base e size n : Nat} {v : Value} {xs : List Value} (h : w.ownsRow base e size v n xs) (hb : ∀ g cur, v.ownBlock = some g → w.heap[g]? = some (.cells cur e (0, 0)) → w'.heap[g]? = w.heap[g]?) : w'.ownsRow base e size v n xs := by
 refine ⟨h.1, ?_⟩;rcases h.2 with ⟨e, hn⟩ | ⟨g, cap, cur, e, h1, h2, h3, h4, h5, h6⟩
 ·exact .inl ⟨e, hn⟩
 ·exact .inr ⟨g, cap, cur, e, h1, (hb g cur (by rw [e]; rfl) h2).trans h2, h3, h4, h5, h6⟩
theorem LineAt.mono {w : World} {base B p : Nat} {x : PLine} {la : Option Addr} {lc : Nat} {ms : List MItem} (h : LnAt w base p x la lc ms) (hB : B ≤ base) : LnAt w B p x la lc ms :=
 ⟨h.row, World.ownsRow.mono h.own hB, h.its, h.bs, by have := h.pb; omega⟩
theorem LineAt.moved {w w' : World} {base p : Nat} {x : PLine} {la : Option Addr} {lc : Nat} {ms : List MItem} (h : LnAt w base p x la lc ms) (hs : w.heap.size ≤ w'.heap.size)
  (hp : ∀ cs, w.heap[p]? = some (.cells cs 105 (0, 0)) → w'.heap[p]? = w.heap[p]?) (ho : ∀ g cur, (Value.slice la ms.length lc).ownBlock = some g → w.heap[g]? = some (.cells cur 40 (0, 0)) → w'.heap[g]? = w.heap[g]?)
  (hu : ∀ k cs fr, k < w.heap.size → w.heap[k]? = some (.cells cs 5 fr) → w'.heap[k]? = w.heap[k]?) : LnAt w' base p x la lc ms :=
 ⟨(hp _ h.row).trans h.row, own_moved h.own ho, h.its, fun m hm => (h.bs m hm).grown (T := 5) hu hs, h.pb⟩
theorem ty_ne {w : World} {k : Nat} {cs cs' : Array Value} {T T' : TypeId} {fr fr' : Nat × Nat} (h : w.heap[k]? = some (.cells cs T fr)) (h' : w.heap[k]? = some (.cells cs' T' fr')) (hne : (T : Nat) ≠ T') : False := by
 rw [h] at h';injection h' with h'
 injection h' with _ e _
 exact hne e
end Go.Proofs.YtogcnfhmcpkdcaaGreat
