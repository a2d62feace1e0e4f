/-
  Structs and slice literals that are built of parts of many cells. No code is walked.
-/
import Derived.Test.YtogcnfhmcpkdcaaFields1
import Derived.Test.YtogcnfhmcpkdcaaGotLaw
import Derived.Great.Walk
namespace Go.Proofs.Ytogcnfhmcpkdcaa
open Go.RowKit
set_option linter.unusedVariables false
set_option linter.unusedSimpArgs false

theorem fold_set (off : Nat) : ∀ (vs : List Value) (k : Nat) (cs : List Value), off + k + vs.length ≤ cs.length →
    ((vs.zipIdx k).foldl (fun (cs : Array Value) (x : Value × Nat) => cs.setIfInBounds (off + x.2) x.1) cs.toArray) = (cs.take (off + k) ++ vs ++ cs.drop (off + k + vs.length)).toArray
  | [], k, cs, h => by simp
  | v :: vs, k, cs, h => by
    simp only [List.length_cons] at h
    rw [List.zipIdx_cons, List.foldl_cons, List.setIfInBounds_toArray, fold_set off vs (k + 1) _ (by simp; omega)]
    congr 1
    have e1 : (cs.set (off + k) v).take (off + (k + 1)) = cs.take (off + k) ++ [v] := by
      rw [show off + (k + 1) = (off + k) + 1 by omega, List.take_succ_eq_append_getElem (by simp; omega)]
      simp [List.take_set_of_le]
    have e2 : (cs.set (off + k) v).drop (off + (k + 1) + vs.length) = cs.drop (off + k + (v :: vs).length) := by
      rw [List.drop_set_of_lt (by omega)]
      congr 1
      simp; omega
    rw [e1, e2]
    simp

/-- one part is laid into its place -/
theorem fill_step (place : Nat → Option (Nat × Nat)) (cs : List Value) (i off size : Nat) (v : Value) (rest : List (Nat × Value)) (hp : place i = some (off, size)) (hs : v.cells.size = size) (ho : off + size ≤ cs.length) :
    Instr.fill place cs.toArray ((i, v) :: rest) = Instr.fill place (cs.take off ++ v.cells.toList ++ cs.drop (off + size)).toArray rest := by
  subst hs
  have h := fold_set off v.cells.toList 0 cs (by simpa using ho)
  simp only [Nat.add_zero, Array.length_toList] at h
  rw [← h]
  simp only [Instr.fill, hp]
  rw [if_neg (by simp; omega)]
  congr 1
  rw [← Array.foldl_toList, Array.toList_zipIdx]

theorem infoGotZ : (Try.prog.info? 61).map (fun i => (i.zero, i.size)) = some (some (.agg (badCells 0)), 37) := by kernel_rfl

/-- a slice of one Got -/
theorem builtSlice_got (gs : Array Value) (h : gs.size = 37) : Try.prog.builtSlice 61 1 [(0, .agg gs)] = some gs := by
  cases hi : Try.prog.info? 61 with
  | none => have := infoGotZ; rw [hi] at this; cases this
  | some i =>
    have h1 := infoGotZ
    rw [hi] at h1
    simp only [Option.map_some, Option.some.injEq, Prod.mk.injEq] at h1
    obtain ⟨h2, h3⟩ := h1
    unfold Program.builtSlice
    simp only [hi, h2, h3]
    rw [if_neg (by omega)]
    obtain ⟨cs, hcs⟩ : ∃ cs : List Value, (Array.range (1 * 37)).map ((Value.agg (badCells 0)).cells[· % (Value.agg (badCells 0)).cells.size]!) = cs.toArray := ⟨_, (Array.toArray_toList).symm⟩
    have hl : cs.length = 37 := by
      have := congrArg Array.size hcs
      simpa using this.symm
    rw [hcs, fill_step _ cs 0 0 37 (.agg gs) [] (by simp) (by simpa [Value.cells] using h) (by omega)]
    rw [List.take_zero, List.drop_of_length_le (by omega)]
    simp [Instr.fill, Value.cells]

theorem infoFieldZ : (Try.prog.info? 58).map (fun i => i.zero) = some (some (.agg (MF.agg ⟨⟨0, 0, [], zeros32⟩, none, 0⟩))) := by kernel_rfl
theorem fieldPlaces : (Try.prog.fieldsOf 58).toList.mapM (fun f : Field => (Try.prog.info? f.type).map fun i => (f.offset, i.size)) = some [(0, 1), (1, 1), (2, 1), (3, 32)] := by kernel_rfl

theorem built_num (v : Nat) : Try.prog.built 58 [(1, .int .u64 (v : Int))] = some (MF.agg ⟨⟨0, v, [], zeros32⟩, none, 0⟩) := by kernel_rfl
theorem built_text (t : List UInt8) (a : Option Addr) (c : Nat) : Try.prog.built 58 [(0, .int .i64 1), (2, .slice a t.length c)] = some (MF.agg ⟨⟨1, 0, t, zeros32⟩, a, c⟩) := by kernel_rfl
set_option maxRecDepth 100000 in
theorem built_id (d : List UInt8) (hd : d.length = 32) : Try.prog.built 58 [(0, .int .i64 2), (3, .agg (d.map bv).toArray)] = some (MF.agg ⟨⟨2, 0, [], d⟩, none, 0⟩) := by
  cases hi : Try.prog.info? 58 with
  | none => have := infoFieldZ; rw [hi] at this; cases this
  | some i =>
    have h1 := infoFieldZ
    rw [hi] at h1
    simp only [Option.map_some, Option.some.injEq] at h1
    have h2 := fieldPlaces
    simp only [Program.fieldsOf, Try.underlying58] at h2
    unfold Program.built
    rw [hi, Try.underlying58]
    simp only [h1]
    rw [h2]
    show Instr.fill _ (MF.cells ⟨⟨0, 0, [], zeros32⟩, none, 0⟩).toArray _ = _
    rw [fill_step _ _ 0 0 1 (.int .i64 2) _ (by rfl) (by rfl) (by simp [MF.cells])]
    rw [fill_step _ _ 3 3 32 (.agg (d.map bv).toArray) _ (by rfl) (by simp [Value.cells, hd]) (by simp [MF.cells, zeros32, Value.cells])]
    simp [Instr.fill, MF.cells, Value.cells, zeros32]
    rfl
end Go.Proofs.Ytogcnfhmcpkdcaa
