/-
  Contracts of layer 9's small functions: within, Right, Decides, and the reference's Right.
-/
import Derived.Test.YtogcnfhmcpkdcaaEntryLaw
import Derived.Test.YtogcnfhmcpkdcaaWideOps2
import Derived.Test.YtogcnfhmcpkdcaaReads
import Derived.Test.YtogcnfhmcpkdcaaPen3
import Derived.Test.YtogcnfhmcpkdcaaLaw4a
namespace Go.Proofs.Ytogcnfhmcpkdcaa
open Go.RowKit
set_option linter.unusedVariables false
set_option linter.unusedSimpArgs false

/-- the cells of an entry that lies in a block -/
theorem erow_cells {W : World} {g : Nat} {T : TypeId} {x : PEntry} (hx : x.tx.length = 32) (h : W.heap[g]? = some (.cells (eagg x) T (0, 0))) :
    W.cell? ⟨g, 0, none⟩ = some (.int .i64 x.k) ∧ W.cell? ⟨g, 1, none⟩ = some (.int .i64 x.s) ∧ W.cell? ⟨g, 34, none⟩ = some (.int .u64 x.a) ∧ W.cell? ⟨g, 35, none⟩ = some (.int .i64 x.y) ∧ W.cell? ⟨g, 36, none⟩ = some (.int .i64 x.p) := by
  obtain ⟨x0, x1, x3, x4, x5⟩ := ecells_at x hx
  refine ⟨?_, ?_, ?_, ?_, ?_⟩ <;> rw [cell_of_row _ _ _ _ _ _ h, eagg, List.getElem?_toArray] <;> assumption

def inRow (n lo hi : Int) : Bool := decide (lo ≤ n) && decide (n ≤ hi)

theorem entryWithin (n lo hi : Int) (w : World) :
    Calls Try.prog 124 #[.int .i64 n, .int .i64 lo, .int .i64 hi] w fun e w' => e = .returned (.bool (inRow n lo hi)) ∧ w = w' := by
  obtain ⟨x, y, h1, h2⟩ : ∃ x y : Bool, decide (lo ≤ n) = x ∧ decide (n ≤ hi) = y := ⟨_, _, rfl, rfl⟩
  have e1 : inRow n lo hi = (x && y) := by rw [← h1, ← h2]; rfl
  rw [e1]
  have HE := Lib.hid e1
  clear e1
  cases x
  · go_enter Try.func124, Try.ntmps124
    go_wp2
    go_ret
    exact ⟨rfl, rfl⟩
  · cases y
    all_goals
      go_enter Try.func124, Try.ntmps124
      go_wp2
      go_ret
      exact ⟨rfl, rfl⟩

def rightE (x : PEntry) : Bool := inRow x.k 1 3 && (inRow x.s 0 63 && (decide (x.a ≤ 4611686018427387904) && (inRow x.y 0 63 && inRow x.p 0 1099511627776)))

theorem built_zeroE : Try.prog.built 68 [] = some (eagg zeroE) := by kernel_rfl
theorem zeroE_len : zeroE.tx.length = 32 := by rfl

set_option maxRecDepth 100000 in
set_option maxHeartbeats 4000000 in
theorem entryRight (x : PEntry) (hx : x.tx.length = 32) (w : World) :
    Calls Try.prog 62 #[.agg (eagg x)] w fun e w' => e = .returned (.bool (rightE x)) ∧ Below w.heap.size w w' := by
  have hz : ∀ W : World, (binOp .eql 68 (.agg (eagg x)) (.agg (eagg zeroE))).run Try.prog W = .ok (.bool (eqE x zeroE)) W := run_eql_entry x zeroE hx zeroE_len
  have hsz := eagg_size x hx
  have HSZ := Lib.hid hsz
  clear hsz
  by_cases hzero : x = zeroE
  · have e1 : rightE x = false := by rw [hzero]; rfl
    rw [e1]
    have e2 : eqE x zeroE = true := (eqE_iff _ _).2 hzero
    rw [e2] at hz
    clear hzero e1 e2
    go_enter Try.func62, Try.ntmps62
    go_wp2_with (first
      | (refine wpList_box_abs rfl 68 _ rfl (eagg x) rfl ?_; intro W0 hrow0 hb0 hs0; have HROW := Lib.hid hrow0; have HB0 := Lib.hid hb0; clear hrow0 hb0)
      | (refine wpList_load_is rfl 68 _ rfl w.heap.size rfl 68 (eagg x) _ HROW.out Try.underlying68 rfl (by rw [HSZ.out]; exact infoEntry) ?_)
      | (refine wpList_build_l rfl 68 [] rfl [] rfl (eagg zeroE) built_zeroE ?_))
    go_ret
    exact ⟨rfl, HB0.out⟩
  · have e2 : eqE x zeroE = false := by
      cases h : eqE x zeroE with
      | false => rfl
      | true => exact absurd ((eqE_iff _ _).1 h) hzero
    rw [e2] at hz
    clear hzero e2
    obtain ⟨b1, h1⟩ : ∃ b1, inRow x.k 1 3 = b1 := ⟨_, rfl⟩
    obtain ⟨b2, h2⟩ : ∃ b2, inRow x.s 0 63 = b2 := ⟨_, rfl⟩
    obtain ⟨b3, h3⟩ : ∃ b3, decide (x.a ≤ 4611686018427387904) = b3 := ⟨_, rfl⟩
    obtain ⟨b4, h4⟩ : ∃ b4, inRow x.y 0 63 = b4 := ⟨_, rfl⟩
    obtain ⟨b5, h5⟩ : ∃ b5, inRow x.p 0 1099511627776 = b5 := ⟨_, rfl⟩
    have e1 : rightE x = (b1 && (b2 && (b3 && (b4 && b5)))) := by rw [← h1, ← h2, ← h3, ← h4, ← h5]; rfl
    rw [e1]
    have t3 : decide ((x.a : Int) ≤ 4611686018427387904) = b3 := by rw [← h3, Bool.eq_iff_iff]; simp; omega
    have H1 := Lib.hid h1
    have H2 := Lib.hid h2
    have H4 := Lib.hid h4
    have H5 := Lib.hid h5
    have HE := Lib.hid e1
    clear h1 h2 h3 h4 h5 e1
    have hway : b1 = false ∨ (b1 = true ∧ b2 = false) ∨ (b1 = true ∧ b2 = true ∧ b3 = false) ∨ (b1 = true ∧ b2 = true ∧ b3 = true ∧ b4 = false) ∨ (b1 = true ∧ b2 = true ∧ b3 = true ∧ b4 = true) := by
      cases b1 <;> cases b2 <;> cases b3 <;> cases b4 <;> simp
    rcases hway with rfl | ⟨rfl, rfl⟩ | ⟨rfl, rfl, rfl⟩ | ⟨rfl, rfl, rfl, rfl⟩ | ⟨rfl, rfl, rfl, rfl⟩
    all_goals
      go_enter Try.func62, Try.ntmps62
      go_wp2_with (first
        | (refine wpList_box_abs rfl 68 _ rfl (eagg x) rfl ?_; intro W0 hrow0 hb0 hs0; have HROW := Lib.hid hrow0; have HB0 := Lib.hid hb0; obtain ⟨c0, c1, c3, c4, c5⟩ := erow_cells hx hrow0; clear hrow0 hb0)
        | (refine wpList_load_is rfl 68 _ rfl w.heap.size rfl 68 (eagg x) _ HROW.out Try.underlying68 rfl (by rw [HSZ.out]; exact infoEntry) ?_)
        | (refine wpList_build_l rfl 68 [] rfl [] rfl (eagg zeroE) built_zeroE ?_)
        | (go_at_call 124; refine (entryWithin _ _ _ _).mono ?_; rintro e w1 ⟨rfl, rfl⟩; first | rw [H1.out] | rw [H2.out] | rw [H4.out] | rw [H5.out]))
      go_ret
      exact ⟨rfl, HB0.out⟩
end Go.Proofs.Ytogcnfhmcpkdcaa
