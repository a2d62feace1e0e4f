/-
  Contract of the reference's Put of an entry.
-/
import Derived.Test.YtogcnfhmcpkdcaaEntry5
import Derived.Test.YtogcnfhmcpkdcaaVote8
namespace Go.Proofs.Ytogcnfhmcpkdcaa
open Go.RowKit
set_option linter.unusedVariables false
set_option linter.unusedSimpArgs false
attribute [local go_sem ↓] Go.wp_at_zero Go.wp_at_succ

set_option maxRecDepth 100000 in
set_option maxHeartbeats 8000000 in
theorem refEntryPut (K S : Nat) (tx : List UInt8) (A Y P : Nat) (hK : K ≤ 3) (hS : S ≤ 63) (ht : tx.length = 32) (hA : A ≤ 4611686018427387904) (hY : Y ≤ 63) (hP : P ≤ 1099511627776) (w : World) :
    Calls Try.prog 64 #[.agg (eagg (mkE K S tx A Y P))] w fun e w' => ∃ a c, e = .returned (.slice a (putE K S tx A Y P).length c) ∧ BsAt w' w'.heap.size a (putE K S tx A Y P).length c (putE K S tx A Y P) ∧ Below w.heap.size w w' := by
  obtain ⟨i0, hi, hz0, hz1, hz2⟩ := info_parts infoU8
  obtain ⟨x, hxx⟩ : ∃ x, x = mkE K S tx A Y P := ⟨_, rfl⟩
  have hx : x.tx.length = 32 := by rw [hxx]; exact ht
  have hk : x.k = (K : Int) := by rw [hxx]; rfl
  have hs : x.s = (S : Int) := by rw [hxx]; rfl
  have htx : x.tx = tx := by rw [hxx]; rfl
  have ha : x.a = A := by rw [hxx]; rfl
  have hy : x.y = (Y : Int) := by rw [hxx]; rfl
  have hp : x.p = (P : Int) := by rw [hxx]; rfl
  have hpl := putE_len hK hS ht hA hY hP
  rw [← hxx]
  have HK := Lib.hid hk
  have HS := Lib.hid hs
  have HTX := Lib.hid htx
  have HA := Lib.hid ha
  have HY := Lib.hid hy
  have HP := Lib.hid hp
  have HLEN := Lib.hid ht
  have n1 := putNum_le9 (show K < 18446744073709551616 by omega)
  have n2 := putNum_le9 (show S < 18446744073709551616 by omega)
  have n3 := putNum_le9 (show A < 18446744073709551616 by omega)
  have n4 := putNum_le9 (show Y < 18446744073709551616 by omega)
  have n5 := putNum_le9 (show P < 18446744073709551616 by omega)
  clear hk hs htx ha hy hp hxx ht
  have k1 : IntKind.u64.wrap (K : Int) = K := by rw [IntKind.wrap_u64]; omega
  have k2 : IntKind.u64.wrap (S : Int) = S := by rw [IntKind.wrap_u64]; omega
  go_enter Try.func64, Try.ntmps64
  go_wp2_with (refine wpList_box_abs rfl 68 _ rfl (eagg x) rfl ?_; intro W0 hrow0 hb0 hs0; have HROW := Lib.hid hrow0; have HB0 := Lib.hid hb0; obtain ⟨c0, c1, -, -, -⟩ := erow_cells hx hrow0; rw [HK.out] at c0; rw [HS.out] at c1; clear hrow0 hb0)
  go_upto_region 1 with (fail)
  go_cut [3] from 4 to 12 (fun bv3 wc => ∃ a c, bv3 = .slice a ((putNum K).length + (putNum S).length) c ∧ wc.ownsRow (w.heap.size + 1) 5 1 (.slice a ((putNum K).length + (putNum S).length) c) ((putNum K).length + (putNum S).length) ((putNum K ++ putNum S).map bv) ∧ Below (w.heap.size + 1) W0 wc)
  case first =>
    go_region_held3 (fun w' => w'.cell? ⟨w.heap.size, 0, none⟩ = some (.int .i64 K) ∧ w'.cell? ⟨w.heap.size, 1, none⟩ = some (.int .i64 S)) (go_keep)
      (first
        | (refine step_append_sl _ (by rfl) (.tmp 7) (.tmp 11) _ (by rfl) (w.heap.size + 1) 5 i0 (.int .u8 0) 1 1 Try.underlying22 hi hz0 hz1 hz2 (by rfl) (by omega) (.slice at' (putNum K).length ct) (putNum K).length ((putNum K).map bv) (by rfl) (by first | exact own_below hot2 hbf | exact hot2) _ af (putNum S).length cf ((putNum S).map bv) (by rfl) (by first | exact (own_bs hof2 (by omega)).sl | exact (own_bs (own_below hof2 hbt) (by omega)).sl) (bvs_oneCell _) (by unfold maxLen; omega) (by omega) (by omega) ?_; intro a3 c3 w3 hown3 hgrow3 hat3; (have q0 : ∀ o, w3.cell? ⟨w.heap.size, o, none⟩ = _ := fun o => hgrow3.cell_far ⟨w.heap.size, o, none⟩ (by first | exact sf2 | exact st2) (fun e => by have h9 : w.heap.size + 1 ≤ w.heap.size := (own_lt hot2 e.symm).1; omega)))
        | (go_at_call_of 117 (Value.int .u64 (K : Int)); refine (refNum K (by omega) _).mono ?_; rintro e wt ⟨at', ct, rfl, hot, hbt⟩; obtain ⟨bt1, bt2⟩ := bcell hbt; have st := hbt.size; have st2 : w.heap.size < wt.heap.size := by first | (simp at st; omega) | omega
           have hot2 := World.ownsRow.mono hot (show w.heap.size + 1 ≤ _ by first | omega | (simp; omega)))
        | (go_at_call_of 117 (Value.int .u64 (S : Int)); refine (refNum S (by omega) _).mono ?_; rintro e wf ⟨af, cf, rfl, hof, hbf⟩; obtain ⟨bf1, bf2⟩ := bcell hbf; have sf := hbf.size; have sf2 : w.heap.size < wf.heap.size := by first | (simp at sf; omega) | omega
           have hof2 := World.ownsRow.mono hof (show w.heap.size + 1 ≤ _ by first | omega | (simp; omega))))
    all_goals
      have hfin : Below (w.heap.size + 1) W0 w3 := by
        first
          | exact (((Below.refl _ W0).drew.trans (hbt.mono (by first | omega | (simp; omega)))).trans (hbf.mono (by omega))).grown hgrow3 (by omega) (fun k hk => (own_lt hot2 hk).1)
          | exact (((Below.refl _ W0).drew.trans (hbf.mono (by first | omega | (simp; omega)))).trans (hbt.mono (by omega))).grown hgrow3 (by omega) (fun k hk => (own_lt hot2 hk).1)
      have hrow3 : w3.ownsRow (w.heap.size + 1) 5 1 (.slice a3 ((putNum K).length + (putNum S).length) c3) ((putNum K).length + (putNum S).length) ((putNum K ++ putNum S).map bv) := by rw [List.map_append]; exact hown3
      have HF := Lib.hid hfin
      have HR := Lib.hid hrow3
      clear hot hbt bt1 bt2 st st2 hot2 hof hbf bf1 bf2 sf sf2 hof2 hown3 hgrow3 hat3 q0 hfin hrow3
      simp only [Exit.then]
      go_step
      go_meet
      exact ⟨a3, c3, rfl, HR.out, HF.out⟩
  case rest =>
    obtain ⟨a3, c3, rfl, hown, hbel⟩ := hcut
    obtain ⟨L1, hL1⟩ : ∃ L1, L1 = putNum K ++ putNum S := ⟨_, rfl⟩
    have hl1 : (putNum K).length + (putNum S).length = L1.length := by rw [hL1]; simp
    have hq1 : L1.length ≤ 18 := by omega
    rw [← hL1, hl1] at hown
    rw [hl1]
    have HL1 := Lib.hid hL1
    have HO1 := Lib.hid hown
    have HBB1 := Lib.hid hbel
    have hsz1 := hbel.size
    have hsz1' : w.heap.size < wc.heap.size := by omega
    have hrow := (hbel.block w.heap.size (by omega)).trans HROW.out
    have HR1 := Lib.hid hrow
    have HRG := Lib.hid (range_id hx hrow)
    clear hL1 hl1 hown hbel hrow k1 k2
    go_wp2_with (refine wpList_load_mid rfl 56 _ rfl w.heap.size 2 rfl (x.tx.map bv) _ HRG.out Try.underlying56 rfl (by rw [List.length_map, hx]; exact infoId) ?_)
    rw [HTX.out]
    refine (refIdBytes tx HLEN.out _).mono ?_
    rintro e u2 ⟨b2, d2, rfl, hob2, hb2⟩
    have hown2 := own_below HO1.out hb2
    have HOW2 := Lib.hid hown2
    have HSL2 := Lib.hid (own_bs hob2 (by omega)).sl
    have hszu2 := hb2.size
    have HBU2 := Lib.hid (HBB1.out.trans (hb2.mono (by omega)))
    clear hown2 hob2 hb2
    go_wp2_with (at_builtin; refine wpList_append_sl _ rfl _ _ 22 rfl (w.heap.size + 1) 5 i0 (.int .u8 0) 1 1 Try.underlying22 hi hz0 hz1 hz2 rfl (by decide) _ _ _ rfl HOW2.out u2.heap.size b2 32 d2 (tx.map bv) rfl HSL2.out (bvs_oneCell _) ?c12 ?c22 ?c32 ?_)
    case c12 => unfold maxLen; omega
    case c22 => omega
    case c32 => omega
    intro e2 f2 w2 hwn2 hgr2 hat2
    obtain ⟨L2, hL2⟩ : ∃ L2, L2 = L1 ++ tx := ⟨_, rfl⟩
    have hll2 : L1.length + 32 = L2.length := by rw [hL2, List.length_append]; rw [HLEN.out]
    have hq2 : L2.length ≤ 50 := by omega
    rw [← List.map_append, ← hL2, hll2] at hwn2
    rw [hll2]
    have hbw2 : Below (w.heap.size + 1) W0 w2 := HBU2.out.grown hgr2 (by omega) (fun k hk => (own_lt HOW2.out hk).1)
    have hsw2 := hbw2.size
    have hsz2' : w.heap.size < w2.heap.size := by omega
    have hrow2 := (hbw2.block w.heap.size (by omega)).trans HROW.out
    have HL2 := Lib.hid hL2
    have HO2 := Lib.hid hwn2
    have HBB2 := Lib.hid hbw2
    have HR2 := Lib.hid hrow2
    clear hL2 hll2 hwn2 hgr2 hat2 hbw2 hrow2
    obtain ⟨-, -, cv, -, -⟩ := erow_cells hx HR2.out
    rw [HA.out] at cv
    go_wp2_with fail
    refine (refNum A (by omega) _).mono ?_
    rintro e u3 ⟨b3, d3, rfl, hob3, hb3⟩
    have hown3 := own_below HO2.out hb3
    have HOW3 := Lib.hid hown3
    have HSL3 := Lib.hid (own_bs hob3 (by omega)).sl
    have hszu3 := hb3.size
    have HBU3 := Lib.hid (HBB2.out.trans (hb3.mono (by omega)))
    clear hown3 hob3 hb3 cv
    go_wp2_with (at_builtin; refine wpList_append_sl _ rfl _ _ 22 rfl (w.heap.size + 1) 5 i0 (.int .u8 0) 1 1 Try.underlying22 hi hz0 hz1 hz2 rfl (by decide) _ _ _ rfl HOW3.out u3.heap.size b3 (putNum A).length d3 ((putNum A).map bv) rfl HSL3.out (bvs_oneCell _) ?c13 ?c23 ?c33 ?_)
    case c13 => unfold maxLen; omega
    case c23 => omega
    case c33 => omega
    intro e3 f3 w3 hwn3 hgr3 hat3
    obtain ⟨L3, hL3⟩ : ∃ L3, L3 = L2 ++ (putNum A) := ⟨_, rfl⟩
    have hll3 : L2.length + (putNum A).length = L3.length := by rw [hL3, List.length_append]
    have hq3 : L3.length ≤ 59 := by omega
    rw [← List.map_append, ← hL3, hll3] at hwn3
    rw [hll3]
    have hbw3 : Below (w.heap.size + 1) W0 w3 := HBU3.out.grown hgr3 (by omega) (fun k hk => (own_lt HOW3.out hk).1)
    have hsw3 := hbw3.size
    have hsz3' : w.heap.size < w3.heap.size := by omega
    have hrow3 := (hbw3.block w.heap.size (by omega)).trans HROW.out
    have HL3 := Lib.hid hL3
    have HO3 := Lib.hid hwn3
    have HBB3 := Lib.hid hbw3
    have HR3 := Lib.hid hrow3
    clear hL3 hll3 hwn3 hgr3 hat3 hbw3 hrow3
    obtain ⟨-, -, -, cv, -⟩ := erow_cells hx HR3.out
    rw [HY.out] at cv
    go_wp2_with fail
    refine (refNum Y (by omega) _).mono ?_
    rintro e u4 ⟨b4, d4, rfl, hob4, hb4⟩
    have hown4 := own_below HO3.out hb4
    have HOW4 := Lib.hid hown4
    have HSL4 := Lib.hid (own_bs hob4 (by omega)).sl
    have hszu4 := hb4.size
    have HBU4 := Lib.hid (HBB3.out.trans (hb4.mono (by omega)))
    clear hown4 hob4 hb4 cv
    go_wp2_with (at_builtin; refine wpList_append_sl _ rfl _ _ 22 rfl (w.heap.size + 1) 5 i0 (.int .u8 0) 1 1 Try.underlying22 hi hz0 hz1 hz2 rfl (by decide) _ _ _ rfl HOW4.out u4.heap.size b4 (putNum Y).length d4 ((putNum Y).map bv) rfl HSL4.out (bvs_oneCell _) ?c14 ?c24 ?c34 ?_)
    case c14 => unfold maxLen; omega
    case c24 => omega
    case c34 => omega
    intro e4 f4 w4 hwn4 hgr4 hat4
    obtain ⟨L4, hL4⟩ : ∃ L4, L4 = L3 ++ (putNum Y) := ⟨_, rfl⟩
    have hll4 : L3.length + (putNum Y).length = L4.length := by rw [hL4, List.length_append]
    have hq4 : L4.length ≤ 68 := by omega
    rw [← List.map_append, ← hL4, hll4] at hwn4
    rw [hll4]
    have hbw4 : Below (w.heap.size + 1) W0 w4 := HBU4.out.grown hgr4 (by omega) (fun k hk => (own_lt HOW4.out hk).1)
    have hsw4 := hbw4.size
    have hsz4' : w.heap.size < w4.heap.size := by omega
    have hrow4 := (hbw4.block w.heap.size (by omega)).trans HROW.out
    have HL4 := Lib.hid hL4
    have HO4 := Lib.hid hwn4
    have HBB4 := Lib.hid hbw4
    have HR4 := Lib.hid hrow4
    clear hL4 hll4 hwn4 hgr4 hat4 hbw4 hrow4
    obtain ⟨-, -, -, -, cv⟩ := erow_cells hx HR4.out
    rw [HP.out] at cv
    go_wp2_with fail
    refine (refNum P (by omega) _).mono ?_
    rintro e u5 ⟨b5, d5, rfl, hob5, hb5⟩
    have hown5 := own_below HO4.out hb5
    have HOW5 := Lib.hid hown5
    have HSL5 := Lib.hid (own_bs hob5 (by omega)).sl
    have hszu5 := hb5.size
    have HBU5 := Lib.hid (HBB4.out.trans (hb5.mono (by omega)))
    clear hown5 hob5 hb5 cv
    go_wp2_with (at_builtin; refine wpList_append_sl _ rfl _ _ 22 rfl (w.heap.size + 1) 5 i0 (.int .u8 0) 1 1 Try.underlying22 hi hz0 hz1 hz2 rfl (by decide) _ _ _ rfl HOW5.out u5.heap.size b5 (putNum P).length d5 ((putNum P).map bv) rfl HSL5.out (bvs_oneCell _) ?c15 ?c25 ?c35 ?_)
    case c15 => unfold maxLen; omega
    case c25 => omega
    case c35 => omega
    intro e5 f5 w5 hwn5 hgr5 hat5
    obtain ⟨L5, hL5⟩ : ∃ L5, L5 = L4 ++ (putNum P) := ⟨_, rfl⟩
    have hll5 : L4.length + (putNum P).length = L5.length := by rw [hL5, List.length_append]
    have hq5 : L5.length ≤ 77 := by omega
    rw [← List.map_append, ← hL5, hll5] at hwn5
    rw [hll5]
    have hbw5 : Below (w.heap.size + 1) W0 w5 := HBU5.out.grown hgr5 (by omega) (fun k hk => (own_lt HOW5.out hk).1)
    have hsw5 := hbw5.size
    have hsz5' : w.heap.size < w5.heap.size := by omega
    have hrow5 := (hbw5.block w.heap.size (by omega)).trans HROW.out
    have HL5 := Lib.hid hL5
    have HO5 := Lib.hid hwn5
    have HBB5 := Lib.hid hbw5
    have HR5 := Lib.hid hrow5
    clear hL5 hll5 hwn5 hgr5 hat5 hbw5 hrow5
    go_wp2
    go_ret
    have hfin : L5 = putE K S tx A Y P := by rw [HL5.out, HL4.out, HL3.out, HL2.out, HL1.out]; simp [putE]
    rw [← hfin]
    exact ⟨e5, f5, rfl, own_bs HO5.out (by omega), HB0.out.trans (HBB5.out.mono (by omega))⟩
end Go.Proofs.Ytogcnfhmcpkdcaa
