/-
  Loads of structs whose operation is guarded, as laws for a walk. No program in sight.
-/
import Derived.Test.YtogcnfhmcpkdcaaWideOps2
import Derived.BigFrame
namespace Go.Proofs.Ytogcnfhmcpkdcaa
open Go.RowKit
set_option linter.unusedVariables false

section
variable {P : Program}

/-- a struct is read out of a whole block; the operation's guard says yes -/
theorem wpList_load_isw {ops : Array Oper} {rest : List Oper} {o : Oper} {a : Act} {w : World} {Q : Exit → Act → World → Prop} (hw : Region.wanted o (yielded ops a.tmps) = true) (ty : TypeId) (x : Operand) (ho : o.op = .load ty x)
    (g : Nat) (hx : a.eval x = .pointer (some ⟨g, 0, none⟩)) (t : TypeId) (cs : Array Value) (d : TypeDesc) (hg : w.heap[g]? = some (.cells cs t (0, 0))) (hu : P.underlying ty = some d) (hd : d.isRow = true) (hi : (P.info? ty).map (·.size) = some cs.size)
    (h : wpList P ops Q rest (a.put o.dst (.agg cs)) w) : wpList P ops Q (o :: rest) a w :=
  BigFrame.wpList_want hw fun K hK => wp_load_row ty x ho g hx t cs (0, 0) d hg hu (by cases d <;> simp_all) (by simpa using hi) (hK _ _ h)
end
end Go.Proofs.Ytogcnfhmcpkdcaa
