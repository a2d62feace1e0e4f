/-
  Letters: the plain law, and letters in memory. No walk.
-/
import Derived.Test.YtogcnfhmcpkdcaaGreatLine9
namespace Go.Proofs.YtogcnfhmcpkdcaaGreat
open Go.RowKit
set_option linter.unusedVariables false
set_option linter.unusedSimpArgs false
structure PLet where
 k : Int
 t : Int
 a : Int
 u : Int
 o : Int
 y : Bool
 its : List PItem
 b : List UInt8
def sameL (x z : PLet) : Bool := decide (x.its = z.its) && ((x.k == z.k) && ((x.t == z.t) && ((x.a == z.a) && ((x.u == z.u) && ((x.o == z.o) && ((x.y == z.y) && decide (x.b = z.b)))))))
theorem sameL_iff (x z : PLet) : sameL x z = true ↔ x = z := by
 obtain ⟨k, t, a, u, o, y, its, b⟩ := x;obtain ⟨k', t', a', u', o', y', its', b'⟩ := z;simp [sameL];constructor
 ·rintro ⟨h1, h2, h3, h4, h5, h6, h7, h8⟩; exact ⟨h2, h3, h4, h5, h6, h7, h1, h8⟩
 ·rintro ⟨h2, h3, h4, h5, h6, h7, h1, h8⟩; exact ⟨h1, h2, h3, h4, h5, h6, h7, h8⟩
def usedL (x : PLet) : PLet :=
 if x.k = 1 then ⟨x.k, x.t, x.a, x.u, 0, false, [], []⟩
 else if x.k = 2 then ⟨x.k, x.t, 0, 0, 0, x.y, [], []⟩
 else if x.k = 3 then ⟨x.k, x.t, x.a, x.u, x.o, false, x.its, []⟩
 else if x.k = 4 then ⟨x.k, x.t, x.a, 0, x.o, x.y, [], []⟩
 else if x.k = 5 then ⟨x.k, x.t, x.a, x.u, 0, false, [], x.b⟩
 else ⟨x.k, x.t, 0, 0, 0, false, [], []⟩
def inM (n : Int) : Bool := decide (0 ≤ n) && decide (n ≤ 1099511627776)
def rightL (x : PLet) : Bool :=
 (decide (1 ≤ x.k) && (decide (x.k ≤ 5) && inM x.t)) && ((inM x.a && inM x.u && inM x.o) && ((decide (x.its.length ≤ 16) && decide (x.b.length ≤ 65536)) && (!(x.its.any fun it => !rightI it) && sameL x (usedL x))))
abbrev lcell (x : PLet) (ia : Option Addr) (n ic : Nat) (ba : Option Addr) (bc : Nat) : Array Value := #[.int .i64 x.k, .int .i64 x.t, .int .i64 x.a, .int .i64 x.u, .int .i64 x.o, .bool x.y, .slice ia n ic, .slice ba x.b.length bc]
structure LetAt (w : World) (B : Nat) (x : PLet) (ia : Option Addr) (ic : Nat) (ms : List MItem) (ba : Option Addr) (bc : Nat) : Prop where
 its : ItemsAt w B ia ms.length ic ms
 eq : ms.map MItem.it = x.its
 b : BsAt w B ba x.b.length bc x.b
theorem LetAt.below {w w' : World} {B B' : Nat} {x : PLet} {ia : Option Addr} {ic : Nat} {ms : List MItem} {ba : Option Addr} {bc : Nat} (h : LetAt w B x ia ic ms ba bc) (hb : Below B' w w') (hB : B ≤ B') : LetAt w' B x ia ic ms ba bc := ⟨h.its.below hb hB, h.eq, h.b.below hb hB⟩
theorem LetAt.mono {w : World} {B B' : Nat} {x : PLet} {ia : Option Addr} {ic : Nat} {ms : List MItem} {ba : Option Addr} {bc : Nat} (h : LetAt w B x ia ic ms ba bc) (hB : B ≤ B') : LetAt w B' x ia ic ms ba bc := ⟨h.its.mono hB, h.eq, h.b.mono hB⟩
theorem LetAt.len {w : World} {B : Nat} {x : PLet} {ia : Option Addr} {ic : Nat} {ms : List MItem} {ba : Option Addr} {bc : Nat} (h : LetAt w B x ia ic ms ba bc) : ms.length = x.its.length := by rw [← h.eq]; simp
theorem letCells {W : World} {g : Nat} {x : PLet} {ia : Option Addr} {n ic : Nat} {ba : Option Addr} {bc : Nat} (h : W.heap[g]? = some (.cells (lcell x ia n ic ba bc) 32 (0, 0))) :
  W.cell? ⟨g, 0, none⟩ = some (.int .i64 x.k) ∧ W.cell? ⟨g, 1, none⟩ = some (.int .i64 x.t) ∧ W.cell? ⟨g, 2, none⟩ = some (.int .i64 x.a) ∧ W.cell? ⟨g, 3, none⟩ = some (.int .i64 x.u) ∧ W.cell? ⟨g, 4, none⟩ = some (.int .i64 x.o) ∧ W.cell? ⟨g, 5, none⟩ = some (.bool x.y) ∧ W.cell? ⟨g, 6, none⟩ = some (.slice ia n ic) ∧ W.cell? ⟨g, 7, none⟩ = some (.slice ba x.b.length bc) :=
 ⟨cell_of_row W g 0 _ _ _ h, cell_of_row W g 1 _ _ _ h, cell_of_row W g 2 _ _ _ h, cell_of_row W g 3 _ _ _ h, cell_of_row W g 4 _ _ _ h, cell_of_row W g 5 _ _ _ h, cell_of_row W g 6 _ _ _ h, cell_of_row W g 7 _ _ _ h⟩
end Go.Proofs.YtogcnfhmcpkdcaaGreat
