/-
  Rows of rows of bytes and rows of truths, opened (RaftAlone).
-/
import Derived.Test.YtogcnfhmcpkdcaaGreatOpen
import Derived.Test.YtogcnfhmcpkdcaaGreatOpenB
import Derived.Test.YtogcnfhmcpkdcaaGreatRaftMem
namespace Go.Proofs.YtogcnfhmcpkdcaaGreat
open Go.ChangeShapes Go.WideShapes Go.ChangeAt Go.RowKit
set_option maxRecDepth 100000
set_option linter.unusedVariables false
set_option linter.unusedSimpArgs false

theorem u8_nat {z : Int} (h : (Lit.int .u8 z).wf = true) : ∃ n : Nat, z = (n : Int) ∧ n < 256 := by
  have hmin : IntKind.u8.min = 0 := rfl
  have hmax : IntKind.u8.max = 255 := rfl
  simp only [Lit.wf, Bool.and_eq_true, decide_eq_true_eq] at h
  exact ⟨z.toNat, by omega, by omega⟩

theorem u8_bytes : ∀ (zs : List Int), (∀ z ∈ zs, (Lit.int .u8 z).wf = true) → ∃ l : List UInt8, zs.map (Value.int .u8) = l.map bv ∧ zs.length = l.length
  | [], _ => ⟨[], rfl, rfl⟩
  | z :: zs, h => by
    obtain ⟨n, rfl, hn⟩ := u8_nat (h z (by simp))
    obtain ⟨l, h1, h2⟩ := u8_bytes zs (fun y hy => h y (by simp [hy]))
    refine ⟨UInt8.ofNat n :: l, ?_, by simp [h2]⟩
    simp only [List.map_cons, h1]
    congr 1
    simp [bv]
    omega

theorem cells5 : Tryz.prog.cellsOf 5 = 1 := by kernel_rfl
theorem cells27 : Tryz.prog.cellsOf 27 = 1 := by kernel_rfl

theorem rows_of {α : Type} {size : Nat} {cell : α → List Value} {P : α → Prop} {R : List Value → Prop} (hR : ∀ cs, R cs → ∃ m, cs = cell m ∧ P m) :
    ∀ (n : Nat) (xs : List Value), xs.length = n * size → (∀ i, i < n → R ((xs.drop (i * size)).take size)) → ∃ ms : List α, ms.length = n ∧ xs = ms.flatMap cell ∧ ∀ m ∈ ms, P m := by
  intro n
  induction n with
  | zero => intro xs hl _; exact ⟨[], rfl, by simpa using hl, by simp⟩
  | succ n ih =>
    intro xs hl hr
    obtain ⟨m, h1, h2⟩ := hR _ (hr 0 (by omega))
    obtain ⟨ms, h3, h4, h5⟩ := ih (xs.drop size) (by simp [hl, Nat.add_mul]) (fun i hi => by
      have := hr (i + 1) (by omega)
      rw [List.drop_drop]
      rwa [show size + i * size = (i + 1) * size by rw [Nat.add_mul]; omega])
    refine ⟨m :: ms, by simp [h3], ?_, ?_⟩
    · rw [List.flatMap_cons, ← h4, ← h1]
      simp
    · intro x hx
      simp at hx
      rcases hx with rfl | hx
      · exact h2
      · exact h5 x hx
/-- what is known of a row of bytes that was read -/
def NoteRd (w : World) (m : MNote) : Prop := m.b.length ≤ 140737488355328 → BsAt w w.heap.size m.a m.b.length m.c m.b

section
variable {H : Type} {enc : TypeId × Value → H} {w : World} {cs : List Value}
/-- a slice of bytes -/
theorem Rd.bytes (h : Rd enc Tryz.prog w 27 cs) : ∃ (a : Option Addr) (n c : Nat) (l : List UInt8), cs = [.slice a n c] ∧ n = l.length ∧ (n ≤ 140737488355328 → BsAt w w.heap.size a n c l) := by
  obtain ⟨a, n, c, xs, rfl, hsl, hel⟩ := h.slice Tryz.underlying27 cells5 (by omega)
  have hlen : xs.length = n := by simpa using hsl.hlen
  have hint : ∀ i (hi : i < xs.length), ∃ z, xs[i] = .int .u8 z ∧ (Lit.int .u8 z).wf = true := by
    intro i hi
    obtain ⟨z, h1, h2⟩ := (hel i (by omega)).int Tryz.underlying5
    rw [Nat.mul_one, List.drop_eq_getElem_cons hi] at h1
    simp only [List.take_succ_cons, List.take_zero, List.cons.injEq, and_true] at h1
    exact ⟨z, h1, h2⟩
  have hz : ∃ zs : List Int, xs = zs.map (Value.int .u8) ∧ ∀ z ∈ zs, (Lit.int .u8 z).wf = true := by
    clear hsl hel hlen
    induction xs with
    | nil => exact ⟨[], rfl, by simp⟩
    | cons x xs ih =>
      obtain ⟨z, h1, h2⟩ := hint 0 (by simp)
      obtain ⟨zs, h3, h4⟩ := ih (fun i hi => by have := hint (i + 1) (by simpa using hi); simpa using this)
      simp at h1
      exact ⟨z :: zs, by simp [h1, h3], by simpa using ⟨h2, h4⟩⟩
  obtain ⟨zs, rfl, hw⟩ := hz
  obtain ⟨l, h1, h2⟩ := u8_bytes zs hw
  rw [h1] at hsl
  have hl : zs.length = n := by simpa using hlen
  exact ⟨a, n, c, l, rfl, by omega, fun hn => bsAt_of_slAt hsl hn⟩
theorem Rd.note (h : Rd enc Tryz.prog w 27 cs) : ∃ m : MNote, cs = [m.cell] ∧ NoteRd w m := by
  obtain ⟨a, n, c, l, rfl, rfl, hb⟩ := h.bytes
  exact ⟨⟨a, c, l⟩, rfl, hb⟩
theorem cells_flat (ns : List MNote) : ns.flatMap (fun m => [m.cell]) = ns.map MNote.cell := by
  induction ns with
  | nil => rfl
  | cons m ns ih => rw [List.flatMap_cons, ih]; rfl
theorem open_bss {v : Value} {d : DataW H} {ps : List MemPlace} {r : Reach} {base : Nat} (hok : Value.okWide Tryz.prog w r base 29 v)
    (h : DataW.Trod enc Tryz.prog w 0 (fun _ => true) true 29 v d ps) : ∃ (a : Option Addr) (c : Nat) (ns : List MNote), v = .slice a ns.length c ∧ SlAt w w.heap.size 1 a ns.length c (ns.map MNote.cell) ∧ ∀ m ∈ ns, NoteRd w m := by
  obtain ⟨a, n, c, xs, rfl, hsl, hel⟩ := open_slAt hok h Tryz.underlying29 cells27 (by omega)
  obtain ⟨ns, h1, h2, h3⟩ := rows_of (fun _ h => Rd.note h) n xs hsl.hlen hel
  subst h1
  rw [cells_flat] at h2
  subst h2
  exact ⟨a, c, ns, rfl, hsl, h3⟩
theorem bools_flat (bs : List Bool) : bs.flatMap (fun b => [Value.bool b]) = bs.map Value.bool := by
  induction bs with
  | nil => rfl
  | cons b bs ih => rw [List.flatMap_cons, ih]; rfl
theorem open_bools {v : Value} {d : DataW H} {ps : List MemPlace} {r : Reach} {base : Nat} (hok : Value.okWide Tryz.prog w r base 71 v)
    (h : DataW.Trod enc Tryz.prog w 0 (fun _ => true) true 71 v d ps) : ∃ (a : Option Addr) (c : Nat) (bs : List Bool), v = .slice a bs.length c ∧ SlAt w w.heap.size 1 a bs.length c (bs.map Value.bool) := by
  obtain ⟨a, n, c, xs, rfl, hsl, hel⟩ := open_slAt hok h Tryz.underlying71 cells4 (by omega)
  obtain ⟨bs, h1, h2, h3⟩ := rows_of (P := fun _ : Bool => True) (cell := fun b => [Value.bool b]) (fun cs h => by
    obtain ⟨b, hb⟩ := Rd.bool h Tryz.underlying4
    exact ⟨b, hb, trivial⟩) n xs hsl.hlen hel
  subst h1
  rw [bools_flat] at h2
  subst h2
  exact ⟨a, c, bs, rfl, hsl⟩
end
end Go.Proofs.YtogcnfhmcpkdcaaGreat
