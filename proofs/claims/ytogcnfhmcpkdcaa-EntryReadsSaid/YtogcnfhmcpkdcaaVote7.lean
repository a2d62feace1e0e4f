/-
  Contracts of layer 16's codec: vote.Put, vote.Read, and the reference's.
-/
import Derived.Test.YtogcnfhmcpkdcaaReads
import Derived.Test.YtogcnfhmcpkdcaaPen3
import Derived.Test.YtogcnfhmcpkdcaaLaw4a
import Derived.Test.YtogcnfhmcpkdcaaRefNum
import Derived.Test.YtogcnfhmcpkdcaaRefTake2
import Derived.Test.YtogcnfhmcpkdcaaVote2
namespace Go.Proofs.Ytogcnfhmcpkdcaa
open Go.RowKit
set_option linter.unusedVariables false
set_option linter.unusedSimpArgs false
attribute [local go_sem ↓] Go.wp_at_zero Go.wp_at_succ

/-- a ballot's bytes -/
def putBallot (t f : Nat) : List UInt8 := putNum t ++ putNum f
/-- a ballot's fields -/
def getBallot (l : List UInt8) : Res (Nat × Nat) := (getNum 1099511627776 l).bind fun t r => (getNum 7 r).bind fun f r' => .ok (t, f) r'

theorem sane_ballot (l : List UInt8) : (getBallot l).sane := Res.sane_bind (sane_num _ _) fun _ _ => Res.sane_bind (sane_num _ _) fun _ _ => sane_ok _ _

theorem PenAt.fresh' (U8 T : TypeId) (w : World) : PenAt U8 (w.alloc (.cells #[.slice none 0 0] T)) w.heap.size (.slice none 0 0) [] :=
  ⟨by simp, by simp [go_sem], by simp [go_sem], ⟨rfl, .inl ⟨rfl, rfl⟩⟩⟩

theorem putNum_len {n : Nat} (h : n < 18446744073709551616) : (putNum n).length ≤ 9 := by have := le_len8 h; simp [putNum]; omega

set_option maxRecDepth 100000 in
set_option maxHeartbeats 2000000 in
theorem votePut_no (bt bf : Int) (h : rightBallot bt bf = false) (w : World) :
    Calls Try.prog 89 #[.agg #[.int .i64 bt, .int .i64 bf]] w fun e w' => e = .returned (.tuple #[.slice none 0 0, .bool false]) ∧ Below w.heap.size w w' := by
  have hb0 : Below w.heap.size w (w.alloc (.cells #[.int .i64 bt, .int .i64 bf] 128)) := (Below.refl _ w).alloc (Nat.le_refl _) _
  have HB0 := Lib.hid hb0
  have HR := Lib.hid h
  clear h hb0
  go_enter Try.func89, Try.ntmps89
  go_wp2_with fail
  refine (voteRight_calls bt bf _).mono ?_
  rintro e w1 ⟨rfl, hb1⟩
  have HB1 := Lib.hid hb1
  clear hb1
  rw [HR.out]
  go_wp2
  go_ret2
  exact ⟨rfl, HB0.out.trans (HB1.out.mono (by simp))⟩

set_option maxRecDepth 100000 in
set_option maxHeartbeats 2000000 in
theorem votePut_yes (t f : Nat) (h : rightBallot (t : Int) ((f : Int) - 1) = true) (ht : t ≤ 1099511627776) (hf : f ≤ 7) (w : World) :
    Calls Try.prog 89 #[.agg #[.int .i64 t, .int .i64 ((f : Int) - 1)]] w fun e w' => ∃ a c, e = .returned (.tuple #[.slice a (putBallot t f).length c, .bool true]) ∧ BsAt w' w'.heap.size a (putBallot t f).length c (putBallot t f) ∧ Below w.heap.size w w' := by
  have hb0 : Below w.heap.size w (w.alloc (.cells #[.int .i64 t, .int .i64 ((f : Int) - 1)] 128)) := (Below.refl _ w).alloc (Nat.le_refl _) _
  have HB0 := Lib.hid hb0
  have HR := Lib.hid h
  clear h hb0
  go_enter Try.func89, Try.ntmps89
  go_wp2_with fail
  refine (voteRight_calls _ _ _).mono ?_
  rintro e w1 ⟨rfl, hb1⟩
  have hs1 := hb1.size
  simp only [World.size_alloc] at hs1
  have hs1' : w.heap.size < w1.heap.size := by omega
  have c0 : w1.cell? ⟨w.heap.size, 0, none⟩ = some (.int .i64 t) := by rw [hb1.cell (p := ⟨w.heap.size, 0, none⟩) (by simp)]; simp [go_sem]
  have c1 : w1.cell? ⟨w.heap.size, 1, none⟩ = some (.int .i64 ((f : Int) - 1)) := by rw [hb1.cell (p := ⟨w.heap.size, 1, none⟩) (by simp)]; simp [go_sem]
  have HB1 := Lib.hid (HB0.out.trans (hb1.mono (by simp)))
  have HP := Lib.hid (PenAt.fresh' 5 36 w1)
  clear hb1
  rw [HR.out]
  go_wp2_with fail
  refine (penNum w1.heap.size t (by omega) _ _ (by simp) _ HP.out).mono ?_
  rintro e w2 ⟨rfl, v2, hp2, ht2⟩
  have hbl2 : Below w1.heap.size w1 w2 := ((Below.refl _ w1).alloc (Nat.le_refl _) _).trans (ht2.below HP.out (Nat.le_refl _))
  have d1 : w2.cell? ⟨w.heap.size, 1, none⟩ = some (.int .i64 ((f : Int) - 1)) := by rw [hbl2.cell (p := ⟨w.heap.size, 1, none⟩) (by show w.heap.size < _; omega)]; exact c1
  have HP2 := Lib.hid hp2
  have HB2 := Lib.hid hbl2
  clear hp2 ht2 hbl2 c0 c1
  go_wp2_with fail
  refine (penNum w1.heap.size f (by omega) _ _ (by have := putNum_len (show t < 18446744073709551616 by omega); simp; omega) _ HP2.out).mono ?_
  rintro e w3 ⟨rfl, v3, hp3, ht3⟩
  have hl3 : ([] ++ putNum t ++ putNum f) = putBallot t f := rfl
  rw [hl3] at hp3
  have HB3 := Lib.hid (HB2.out.trans (ht3.below HP2.out (Nat.le_refl _)))
  have HP3 := Lib.hid hp3
  clear hp3 ht3 d1 hl3
  go_wp2_with fail
  refine (penBytes w1.heap.size v3 (putBallot t f) (by have := putNum_len (show t < 18446744073709551616 by omega); have := putNum_len (show f < 18446744073709551616 by omega); simp [putBallot]; omega) _ HP3.out).mono ?_
  rintro e w4 ⟨a4, c4, rfl, hbs4, hb4, -⟩
  have HB4 := Lib.hid (HB1.out.trans ((HB3.out.trans (hb4.mono HB3.out.size)).mono (by omega)))
  have HBS := Lib.hid hbs4
  clear hb4 hbs4
  go_wp2
  go_ret2
  exact ⟨a4, c4, rfl, HBS.out, HB4.out⟩
end Go.Proofs.Ytogcnfhmcpkdcaa
