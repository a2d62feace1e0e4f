/-
  Entries as cells and as bytes; two are compared. No code is walked.
-/
import Derived.Test.YtogcnfhmcpkdcaaFieldId
import Derived.Test.YtogcnfhmcpkdcaaCodec
import Derived.Laws.StructEq
import Derived.Stop.BytesEq
namespace Go.Proofs.Ytogcnfhmcpkdcaa
open Go.RowKit
set_option linter.unusedVariables false

/-- an entry -/
structure PEntry where
  k : Int
  s : Int
  tx : List UInt8
  a : Nat
  y : Int
  p : Int

def eqE (x z : PEntry) : Bool := x.k == z.k && (x.s == z.s && (x.tx == z.tx && (x.a == z.a && (x.y == z.y && x.p == z.p))))
theorem eqE_iff (x z : PEntry) : eqE x z = true ↔ x = z := by
  obtain ⟨k, s, t, a, y, p⟩ := x
  obtain ⟨k', s', t', a', y', p'⟩ := z
  simp [eqE]
theorem eqE_refl (x : PEntry) : eqE x x = true := (eqE_iff x x).2 rfl

def zeroTx : List UInt8 := List.replicate 32 0
def zeroE : PEntry := ⟨0, 0, zeroTx, 0, 0, 0⟩

/-- its cells -/
def ecells (x : PEntry) : List Value := .int .i64 x.k :: .int .i64 x.s :: (x.tx.map bv ++ [.int .u64 x.a, .int .i64 x.y, .int .i64 x.p])
def eagg (x : PEntry) : Array Value := (ecells x).toArray

theorem ecells_len (x : PEntry) (h : x.tx.length = 32) : (ecells x).length = 37 := by simp [ecells, h]
theorem eagg_size (x : PEntry) (h : x.tx.length = 32) : (eagg x).size = 37 := by rw [eagg, List.size_toArray, ecells_len x h]
theorem ecells_at (x : PEntry) (h : x.tx.length = 32) : (ecells x)[0]? = some (.int .i64 x.k) ∧ (ecells x)[1]? = some (.int .i64 x.s) ∧ (ecells x)[34]? = some (.int .u64 x.a) ∧ (ecells x)[35]? = some (.int .i64 x.y) ∧ (ecells x)[36]? = some (.int .i64 x.p) := by
  refine ⟨rfl, rfl, ?_, ?_, ?_⟩ <;>
  · simp only [ecells, List.getElem?_cons_succ]
    rw [List.getElem?_append_right (by simp [h])]
    simp [h]
theorem eagg_one (x : PEntry) : (eagg x).all (·.oneCell') = true := by
  refine all_oneCell_toArray (fun v hv => ?_)
  simp only [ecells, List.mem_cons, List.mem_append, List.mem_map] at hv
  rcases hv with rfl | rfl | ⟨x, _, rfl⟩ | rfl | rfl | rfl | h
  · rfl
  · rfl
  · rfl
  · rfl
  · rfl
  · rfl
  · cases h

theorem infoEntry : (Try.prog.info? 68).map (·.size) = some 37 := by kernel_rfl
theorem fields_entry : (Try.prog.fieldsOf 68).toList.map (fun f => (f.name, f.type, f.offset)) = [("Kind", 3, 0), ("Shard", 3, 1), ("Tx", 56, 2), ("Amount", 32, 34), ("Why", 3, 35), ("Epoch", 3, 36)] := by kernel_rfl

theorem part_one {P : Program} {t : TypeId} {k : IntKind} (ht : P.underlying t = some (.int k)) {cs : List Value} {o : Nat} {v : Value} (h : cs[o]? = some v) (w : World) : (part t cs.toArray o).run P w = .ok v w := by
  obtain ⟨hl, he⟩ := List.getElem?_eq_some_iff.1 h
  simp [part, isAgg, run_underlying ht, h]

theorem sizeU8 (w : World) : (sizeOf 5).run Try.prog w = .ok 1 w := by kernel_rfl

theorem part_id (x : PEntry) (h : x.tx.length = 32) (w : World) : (part 56 (eagg x) 2).run Try.prog w = .ok (.agg (x.tx.map bv).toArray) w := by
  have ha : (isAgg 56).run Try.prog w = .ok true w := by kernel_rfl
  have he : (eagg x).extract 2 34 = (x.tx.map bv).toArray := by
    simp [eagg, ecells, h]
  simp [part, ha, he]

theorem eqFields_step {P : Program} {d : Nat} {f : Field} {fs : List Field} {xs ys : Array Value} {x y : Value} {r s : Bool} {w : World} (hn : f.name ≠ "_") (px : (part f.type xs f.offset).run P w = .ok x w) (py : (part f.type ys f.offset).run P w = .ok y w)
    (he : (Op.equalIn d f.type x y).run P w = .ok r w) (hs : (Op.eqFields d xs ys fs).run P w = .ok s w) : (Op.eqFields d xs ys (f :: fs)).run P w = .ok (r && s) w := by
  cases r <;> simp [Op.eqFields, hn, px, py, he, hs]

set_option maxRecDepth 100000 in
theorem run_eqE (x z : PEntry) (hx : x.tx.length = 32) (hz : z.tx.length = 32) (w : World) : (Op.equalIn 10000 68 (.agg (eagg x)) (.agg (eagg z))).run Try.prog w = .ok (eqE x z) w := by
  rw [run_equalIn_struct w 9999 68 (eagg x) (eagg z) (by kernel_rfl) (by kernel_rfl)]
  obtain ⟨x0, x1, x3, x4, x5⟩ := ecells_at x hx
  obtain ⟨z0, z1, z3, z4, z5⟩ := ecells_at z hz
  simp only [Program.fieldsOf, Try.underlying68]
  have hb : (Op.equalIn 9999 56 (.agg (x.tx.map bv).toArray) (.agg (z.tx.map bv).toArray)).run Try.prog w = .ok (x.tx == z.tx) w := run_equalIn_bytes (P := Try.prog) w 9997 56 5 32 Try.underlying56 Try.underlying5 sizeU8 x.tx z.tx hx hz
  have ei : ∀ a b : Int, (Op.equalIn 9999 3 (.int .i64 a) (.int .i64 b)).run Try.prog w = .ok (a == b) w := fun a b => run_equalIn_int w 9998 3 .i64 .i64 a b Try.underlying3
  have eu : (Op.equalIn 9999 32 (.int .u64 x.a) (.int .u64 z.a)).run Try.prog w = .ok (x.a == z.a) w := by
    rw [run_equalIn_int w 9998 32 .u64 .u64 _ _ Try.underlying32]
    congr 1
    by_cases h : x.a = z.a
    · rw [h]; exact (beq_self_eq_true _).trans (beq_self_eq_true _).symm
    · rw [beq_eq_false_iff_ne.2 h]; exact beq_eq_false_iff_ne.2 (fun e => h (Int.ofNat.inj e))
  have h0 := eqFields_step (P := Try.prog) (d := 9999) (fs := []) (f := { name := "Epoch", type := 3, offset := 36, embedded := false, tag := "", pkgPath := "", byteOffset := 64 }) (by decide) (part_one Try.underlying3 x5 w) (part_one Try.underlying3 z5 w) (ei x.p z.p) (s := true) (by simp [Op.eqFields])
  rw [Bool.and_true] at h0
  exact eqFields_step (by decide) (part_one Try.underlying3 x0 w) (part_one Try.underlying3 z0 w) (ei _ _) (eqFields_step (by decide) (part_one Try.underlying3 x1 w) (part_one Try.underlying3 z1 w) (ei _ _)
    (eqFields_step (by decide) (part_id x hx w) (part_id z hz w) hb (eqFields_step (by decide) (part_one Try.underlying32 x3 w) (part_one Try.underlying32 z3 w) eu
      (eqFields_step (by decide) (part_one Try.underlying3 x4 w) (part_one Try.underlying3 z4 w) (ei _ _) h0))))

theorem run_eql_entry (x z : PEntry) (hx : x.tx.length = 32) (hz : z.tx.length = 32) (w : World) : (binOp .eql 68 (.agg (eagg x)) (.agg (eagg z))).run Try.prog w = .ok (.bool (eqE x z)) w := by
  rw [run_eql_struct, run_eqE x z hx hz]; rfl
end Go.Proofs.Ytogcnfhmcpkdcaa
