/-
  The reading function of the statement FieldFails.
-/
import Derived.Test.YtogcnfhmcpkdcaaLaw4a
namespace Go.Proofs.Ytogcnfhmcpkdcaa
open Go.RowKit
set_option linter.unusedVariables false

/-- numbers of one byte each -/
def pairs : List UInt8 → List UInt8
  | [] => []
  | c :: cs => 1 :: c :: pairs cs

theorem getNum_pair (c : UInt8) (r : List UInt8) (hc : c ≠ 0) : getNum 255 (1 :: c :: r) = .ok c.toNat r := by
  have h1 : (1 : UInt8).toNat = 1 := rfl
  have h2 := c.toNat_lt
  simp only [getNum, h1]
  rw [if_neg (by omega), if_neg (by simp), if_neg (by simp [hc]), if_neg (by simp [be]; omega)]
  simp [be]

set_option maxHeartbeats 2000000 in
theorem endsRead (q p : Nat) (cs : List UInt8) (X : Int) (hX : X ≠ 0) (hcs : ∀ c ∈ cs, c ≠ 0) (hlen : cs.length ≤ 1000000) (w : World) (h : EyeAt w q (pairs cs)) (hp : p < w.heap.size) (hpq : p ≠ q)
    (hc0 : w.cell? ⟨p, 0, none⟩ = some (.int .i64 cs.length)) (hc1 : w.cell? ⟨p, 1, none⟩ = some (.int .i64 0)) (hc2 : w.cell? ⟨p, 2, none⟩ = some (.int .i64 X)) (hz : w.frozen? ⟨p, 1, none⟩ = false) :
    Calls Try.prog 27 #[.pointer (some ⟨p, 0, none⟩), .pointer (some ⟨q, 0, none⟩)] w fun e w' => w.heap.size ≤ w'.heap.size ∧ (∀ k, k < w.heap.size → k ≠ q → k ≠ p → w'.heap[k]? = w.heap[k]?) ∧ w'.os = w.os ∧ w'.tape = w.tape ∧ w'.output = w.output ∧
      e = broke X ∧ w'.cell? ⟨p, 1, none⟩ = some (.int .i64 cs.length) := by
  go_enter Try.func27, Try.ntmps27
  go_wp2_with fail
  go_loopw [4] (fun iv wr => ∃ i : Nat, i ≤ cs.length ∧ iv = .int .i64 i ∧ EyeAt wr q (pairs (cs.drop i)) ∧ wr.cell? ⟨p, 0, none⟩ = some (.int .i64 cs.length) ∧ wr.cell? ⟨p, 1, none⟩ = some (.int .i64 i) ∧ wr.cell? ⟨p, 2, none⟩ = some (.int .i64 X) ∧ wr.frozen? ⟨p, 1, none⟩ = false ∧
      w.heap.size ≤ wr.heap.size ∧ (∀ k, k < w.heap.size → k ≠ q → k ≠ p → wr.heap[k]? = w.heap[k]?) ∧ wr.os = w.os ∧ wr.tape = w.tape ∧ wr.output = w.output)
    (fun iv _ => cs.length - (intOf iv).toNat)
  case atStart => exact ⟨0, by omega, rfl, by simpa using h, hc0, hc1, hc2, hz, Nat.le_refl _, fun _ _ _ _ => rfl, rfl, rfl, rfl⟩
  case round =>
    obtain ⟨i, hi, rfl, heye, k0, k1, k2, kz, ksz, kfr, ko, kt, ku⟩ := hrel
    have HF := Lib.hid (And.intro kfr (And.intro ko (And.intro kt ku)))
    clear kfr ko kt ku h hc0 hc1 hc2 hz
    by_cases hlt : i < cs.length
    · obtain ⟨c, hc⟩ : ∃ c, c = cs.getD i 0 := ⟨_, rfl⟩
      have hd : cs.drop i = c :: cs.drop (i + 1) := by rw [List.drop_eq_getElem_cons hlt, hc]; simp [List.getD, List.getElem?_eq_getElem hlt]
      have hcn : c ≠ 0 := by
        refine hcs c ?_
        rw [hc]; simp [List.getD, List.getElem?_eq_getElem hlt]
      rw [hd] at heye
      simp only [pairs] at heye
      have HC := Lib.hid hcn
      have t1 : decide ((i : Int) < (cs.length : Int)) = true := by simp; omega
      clear hc hd hcn hcs
      go_wp2_with fail
      refine (eyeNum q 255 _ _ heye).mono ?_
      rintro e w1 ⟨hb, hr⟩
      rw [getNum_pair c _ HC.out] at hr
      obtain ⟨rfl, heye1⟩ := hr
      go_wp2_with fail
      refine (eyeFail_ok _ _).mono ?_
      rintro e w2 ⟨rfl, rfl⟩
      have hpw : p < wr.heap.size := by omega
      have hpb := hb.block p hpw hpq
      have m0 : w1.cell? ⟨p, 0, none⟩ = some (.int .i64 cs.length) := (World.cell?_of_block (a := ⟨p, 0, none⟩) hpb).trans k0
      have m1 : w1.cell? ⟨p, 1, none⟩ = some (.int .i64 i) := (World.cell?_of_block (a := ⟨p, 1, none⟩) hpb).trans k1
      have m2 : w1.cell? ⟨p, 2, none⟩ = some (.int .i64 X) := (World.cell?_of_block (a := ⟨p, 2, none⟩) hpb).trans k2
      have mz : w1.frozen? ⟨p, 1, none⟩ = false := (World.frozen?_of_block (a := ⟨p, 1, none⟩) hpb).trans kz
      have HB := Lib.hid hb
      have HE := Lib.hid heye1
      clear hb heye1 heye k0 k1 k2 kz hpb
      go_wp2_with fail
      obtain ⟨f1, f2, f3, f4⟩ := HF.out
      have hb := HB.out
      refine ⟨⟨i + 1, by omega, by go_num, HE.out.setOther hpq m1 (fun c e => by cases e) _, ?_, ?_, ?_, by simpa using mz, by simp; have := hb.size; omega, ?_, hb.os.trans f2, hb.tape.trans f3, hb.output.trans f4⟩, by simp [intOf]; omega⟩
      · rw [World.cell?_setCell_other _ _ _ _ (fun e => by injection e with _ e1; omega)]; exact m0
      · rw [World.cell?_setCell_same _ _ _ m1]; go_num
      · rw [World.cell?_setCell_other _ _ _ _ (fun e => by injection e with _ e1; omega)]; exact m2
      · intro k hk hq hkp
        exact (Below.heap_setCell _ _ _ k hkp).trans ((hb.block k (by omega) hq).trans (f1 k hk hq hkp))
    · have hin : i = cs.length := by omega
      subst hin
      have t1 : decide ((cs.length : Int) < (cs.length : Int)) = false := by simp
      go_wp2_with fail
      refine (eyeFail_no _ X hX _).mono ?_
      rintro e w1 ⟨rfl, rfl⟩
      obtain ⟨f1, f2, f3, f4⟩ := HF.out
      go_wp2
      exact ⟨rfl, ksz, f1, f2, f3, f4, rfl, k1⟩
end Go.Proofs.Ytogcnfhmcpkdcaa
