/-
  An entry built of its parts. No code is walked.
-/
import Derived.Test.YtogcnfhmcpkdcaaWideOps
import Derived.Test.YtogcnfhmcpkdcaaEntryLaw
namespace Go.Proofs.Ytogcnfhmcpkdcaa
open Go.RowKit
set_option linter.unusedVariables false
set_option linter.unusedSimpArgs false

theorem fold_setE (off : Nat) : ∀ (vs : List Value) (k : Nat) (cs : List Value), off + k + vs.length ≤ cs.length →
    ((vs.zipIdx k).foldl (fun (cs : Array Value) (x : Value × Nat) => cs.setIfInBounds (off + x.2) x.1) cs.toArray) = (cs.take (off + k) ++ vs ++ cs.drop (off + k + vs.length)).toArray
  | [], k, cs, h => by simp
  | v :: vs, k, cs, h => by
    simp only [List.length_cons] at h
    rw [List.zipIdx_cons, List.foldl_cons, List.setIfInBounds_toArray, fold_setE off vs (k + 1) _ (by simp; omega)]
    congr 1
    have e1 : (cs.set (off + k) v).take (off + (k + 1)) = cs.take (off + k) ++ [v] := by
      rw [show off + (k + 1) = (off + k) + 1 by omega, List.take_succ_eq_append_getElem (by simp; omega)]
      simp [List.take_set_of_le]
    have e2 : (cs.set (off + k) v).drop (off + (k + 1) + vs.length) = cs.drop (off + k + (v :: vs).length) := by
      rw [List.drop_set_of_lt (by omega)]
      congr 1
      simp; omega
    rw [e1, e2]
    simp

/-- one part is laid into its place -/
theorem fill_stepE (place : Nat → Option (Nat × Nat)) (cs : List Value) (i off size : Nat) (v : Value) (rest : List (Nat × Value)) (hp : place i = some (off, size)) (hs : v.cells.size = size) (ho : off + size ≤ cs.length) :
    Instr.fill place cs.toArray ((i, v) :: rest) = Instr.fill place (cs.take off ++ v.cells.toList ++ cs.drop (off + size)).toArray rest := by
  subst hs
  have h := fold_setE off v.cells.toList 0 cs (by simpa using ho)
  simp only [Nat.add_zero, Array.length_toList] at h
  rw [← h]
  simp only [Instr.fill, hp]
  rw [if_neg (by simp; omega)]
  congr 1
  rw [← Array.foldl_toList, Array.toList_zipIdx]

/-- a struct is built, and it is these cells; the parts as a list -/
theorem wp_build_l {P : Program} {o : Oper} {a : Act} {w : World} {K : Act → World → Prop} {Q : Exit → Act → World → Prop} (t : TypeId) (parts : List (Nat × Operand)) (ho : o.op = .build t parts.toArray)
    (vals : List (Nat × Value)) (hv : parts.map (fun p => (p.1, a.eval p.2)) = vals) (cells : Array Value) (hf : P.built t vals = some cells)
    (h : K (a.put o.dst (.agg cells)) w) : o.wp P a w K Q :=
  wp_build_is t parts.toArray ho cells (by rw [Array.toList_map]; exact (by rw [← hf, ← hv])) h

theorem infoEntryZ : (Try.prog.info? 68).map (fun i => i.zero) = some (some (.agg (eagg zeroE))) := by kernel_rfl
theorem entryPlaces : (Try.prog.fieldsOf 68).toList.mapM (fun f : Field => (Try.prog.info? f.type).map fun i => (f.offset, i.size)) = some [(0, 1), (1, 1), (2, 32), (34, 1), (35, 1), (36, 1)] := by kernel_rfl

theorem set_mid (X T : List Value) (z v : Value) (off : Nat) (h : X.length = off) : (X ++ z :: T).take off ++ [v] ++ (X ++ z :: T).drop (off + 1) = X ++ v :: T := by
  subst h
  rw [List.take_left' rfl, show X ++ z :: T = (X ++ [z]) ++ T by simp, List.drop_left' (by simp)]
  simp

set_option maxRecDepth 100000 in
theorem built_entry (k s : Int) (d : List UInt8) (n : Nat) (y p : Int) (hd : d.length = 32) :
    Try.prog.built 68 [(0, .int .i64 k), (1, .int .i64 s), (2, .agg (d.map bv).toArray), (3, .int .u64 (n : Int)), (4, .int .i64 y), (5, .int .i64 p)] = some (eagg ⟨k, s, d, n, y, p⟩) := by
  cases hi : Try.prog.info? 68 with
  | none => have := infoEntryZ; rw [hi] at this; cases this
  | some i =>
    have h1 := infoEntryZ
    rw [hi] at h1
    simp only [Option.map_some, Option.some.injEq] at h1
    have h2 := entryPlaces
    simp only [Program.fieldsOf, Try.underlying68] at h2
    unfold Program.built
    rw [hi, Try.underlying68]
    simp only [h1]
    rw [h2]
    show Instr.fill _ (ecells zeroE).toArray _ = _
    have hz : ecells zeroE = [] ++ .int .i64 0 :: (.int .i64 0 :: (zeroTx.map bv ++ [.int .u64 0, .int .i64 0, .int .i64 0])) := rfl
    rw [hz, fill_stepE _ _ 0 0 1 (.int .i64 k) _ (by rfl) (by rfl) (by simp [zeroTx])]
    rw [show ((Value.int .i64 k).cells.toList) = [.int .i64 k] from rfl, show (0 + 1 : Nat) = 0 + 1 from rfl, set_mid [] _ _ _ 0 rfl]
    rw [show ([] ++ Value.int .i64 k :: (.int .i64 0 :: (zeroTx.map bv ++ [.int .u64 0, .int .i64 0, .int .i64 0])) : List Value) = [.int .i64 k] ++ .int .i64 0 :: (zeroTx.map bv ++ [.int .u64 0, .int .i64 0, .int .i64 0]) from rfl]
    rw [fill_stepE _ _ 1 1 1 (.int .i64 s) _ (by rfl) (by rfl) (by simp [zeroTx])]
    rw [show ((Value.int .i64 s).cells.toList) = [.int .i64 s] from rfl, set_mid [.int .i64 k] _ _ _ 1 rfl]
    rw [fill_stepE _ _ 2 2 32 (.agg (d.map bv).toArray) _ (by rfl) (by simp [Value.cells, hd]) (by simp [zeroTx])]
    have e3 : (([.int .i64 k] ++ Value.int .i64 s :: (zeroTx.map bv ++ [.int .u64 0, .int .i64 0, .int .i64 0]) : List Value).take 2 ++ (Value.agg (d.map bv).toArray).cells.toList ++ ([.int .i64 k] ++ Value.int .i64 s :: (zeroTx.map bv ++ [.int .u64 0, .int .i64 0, .int .i64 0]) : List Value).drop (2 + 32)) =
        (.int .i64 k :: .int .i64 s :: d.map bv) ++ .int .u64 0 :: [.int .i64 0, .int .i64 0] := by
      simp [zeroTx, Value.cells]
    rw [e3, fill_stepE _ _ 3 34 1 (.int .u64 (n : Int)) _ (by rfl) (by rfl) (by simp [hd])]
    rw [show ((Value.int .u64 (n : Int)).cells.toList) = [.int .u64 n] from rfl, set_mid _ _ _ _ 34 (by simp [hd])]
    rw [show ((.int .i64 k :: .int .i64 s :: d.map bv) ++ .int .u64 (n : Int) :: [.int .i64 0, .int .i64 0] : List Value) = ((.int .i64 k :: .int .i64 s :: d.map bv) ++ [.int .u64 (n : Int)]) ++ .int .i64 0 :: [.int .i64 0] by simp]
    rw [fill_stepE _ _ 4 35 1 (.int .i64 y) _ (by rfl) (by rfl) (by simp [hd])]
    rw [show ((Value.int .i64 y).cells.toList) = [.int .i64 y] from rfl, set_mid _ _ _ _ 35 (by simp [hd])]
    rw [show (((.int .i64 k :: .int .i64 s :: d.map bv) ++ [.int .u64 (n : Int)]) ++ .int .i64 y :: [.int .i64 0] : List Value) = (((.int .i64 k :: .int .i64 s :: d.map bv) ++ [.int .u64 (n : Int)]) ++ [.int .i64 y]) ++ .int .i64 0 :: [] by simp]
    rw [fill_stepE _ _ 5 36 1 (.int .i64 p) _ (by rfl) (by rfl) (by simp [hd])]
    rw [show ((Value.int .i64 p).cells.toList) = [.int .i64 p] from rfl, set_mid _ _ _ _ 36 (by simp [hd])]
    simp [Instr.fill, eagg, ecells]
end Go.Proofs.Ytogcnfhmcpkdcaa
