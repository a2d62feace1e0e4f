/-
  Contract of the reference's Put of a ballot.
-/
import Derived.Test.YtogcnfhmcpkdcaaVote7
import Derived.Deep.RegionWith
import Derived.Deep.DeepMust
namespace Go.Proofs.Ytogcnfhmcpkdcaa
open Go.RowKit
set_option linter.unusedVariables false
set_option linter.unusedSimpArgs false
attribute [local go_sem ↓] Go.wp_at_zero Go.wp_at_succ

theorem own_below {w w' : World} {base e size n : Nat} {v : Value} {xs : List Value} (h : w.ownsRow base e size v n xs) (hb : Below w.heap.size w w') : w'.ownsRow base e size v n xs := by
  refine ⟨h.1, ?_⟩
  rcases h.2 with ⟨e, hn⟩ | ⟨g, cap, cur, e, h1, h2, h3, h4, h5, h6⟩
  · exact .inl ⟨e, hn⟩
  · exact .inr ⟨g, cap, cur, e, h1, (hb.block g (Array.getElem?_eq_some_iff.1 h2).1).trans h2, h3, h4, h5, h6⟩

theorem own_bs {w : World} {base e n c : Nat} {a : Option Addr} {l : List UInt8} (h : w.ownsRow base e 1 (.slice a n c) n (l.map bv)) (hn : n ≤ 140737488355328) : BsAt w w.heap.size a n c l := by
  obtain ⟨a5, c5, e5, h5⟩ := bsAt_of_owns h hn
  injection e5 with e6 e7 e8
  subst e6; subst e8
  exact h5

set_option maxRecDepth 100000 in
set_option maxHeartbeats 4000000 in
theorem refVotePut (t f : Nat) (ht : t < 18446744073709551616) (ht2 : t ≤ 9223372036854775807) (hf : f ≤ 7) (w : World) :
    Calls Try.prog 93 #[.agg #[.int .i64 t, .int .i64 ((f : Int) - 1)]] w fun e w' => ∃ a c, e = .returned (.slice a (putBallot t f).length c) ∧ BsAt w' w'.heap.size a (putBallot t f).length c (putBallot t f) ∧ Below w.heap.size w w' := by
  obtain ⟨i0, hi, hz0, hz1, hz2⟩ := info_parts infoU8
  have hlt := putNum_len ht
  have hlf := putNum_len (show f < 18446744073709551616 by omega)
  have hb0 : Below w.heap.size w (w.alloc (.cells #[.int .i64 t, .int .i64 ((f : Int) - 1)] 128)).drew := ((Below.refl _ w).alloc (Nat.le_refl _) _).drew
  have HB0 := Lib.hid hb0
  clear hb0
  have k1 : IntKind.u64.wrap (t : Int) = t := by rw [IntKind.wrap_u64]; omega
  have k2 : IntKind.i64.wrap (f : Int) = f := by rw [IntKind.wrap_i64]; omega
  have k3 : IntKind.u64.wrap (f : Int) = f := by rw [IntKind.wrap_u64]; omega
  go_enter Try.func93, Try.ntmps93
  go_wp2_with fail
  go_region_held3 (fun w' => w'.cell? ⟨w.heap.size, 0, none⟩ = some (.int .i64 t) ∧ w'.cell? ⟨w.heap.size, 1, none⟩ = some (.int .i64 ((f : Int) - 1))) (go_keep)
    (first
      | (refine step_append_sl _ (by rfl) (.tmp 6) (.tmp 11) _ (by rfl) (w.heap.size + 1) 5 i0 (.int .u8 0) 1 1 Try.underlying22 hi hz0 hz1 hz2 (by rfl) (by omega) (.slice at' (putNum t).length ct) (putNum t).length ((putNum t).map bv) (by rfl) (by first | exact own_below hot2 hbf | exact hot2) _ af (putNum f).length cf ((putNum f).map bv) (by rfl) (by first | exact (own_bs hof2 (by omega)).sl | exact (own_bs (own_below hof2 hbt) (by omega)).sl) (bvs_oneCell _) (by unfold maxLen; omega) (by omega) (by omega) ?_; intro a3 c3 w3 hown3 hgrow3 hat3; (have q0 : ∀ o, w3.cell? ⟨w.heap.size, o, none⟩ = _ := fun o => hgrow3.cell_far ⟨w.heap.size, o, none⟩ (by first | exact sf2 | exact st2) (fun e => by have h9 : w.heap.size + 1 ≤ w.heap.size := (own_lt hot2 e.symm).1; omega)))
      | (go_at_call_of 117 (Value.int .u64 (t : Int)); refine (refNum t (by omega) _).mono ?_; rintro e wt ⟨at', ct, rfl, hot, hbt⟩; obtain ⟨bt1, bt2⟩ := bcell hbt; have st := hbt.size; have st2 : w.heap.size < wt.heap.size := by first | (simp at st; omega) | omega
         have hot2 := World.ownsRow.mono hot (show w.heap.size + 1 ≤ _ by first | omega | (simp; done)))
      | (go_at_call_of 117 (Value.int .u64 (f : Int)); refine (refNum f (by omega) _).mono ?_; rintro e wf ⟨af, cf, rfl, hof, hbf⟩; obtain ⟨bf1, bf2⟩ := bcell hbf; have sf := hbf.size; have sf2 : w.heap.size < wf.heap.size := by first | (simp at sf; omega) | omega
         have hof2 := World.ownsRow.mono hof (show w.heap.size + 1 ≤ _ by first | omega | (simp; done))))
  all_goals
    have e1 : (putBallot t f).length = (putNum t).length + (putNum f).length := by simp [putBallot]
    have e2 : (putBallot t f).map bv = (putNum t).map bv ++ (putNum f).map bv := by simp [putBallot]
    have hbs : BsAt w3 w3.heap.size a3 ((putNum t).length + (putNum f).length) c3 (putBallot t f) := own_bs (by rw [e2]; exact hown3) (by omega)
    have hfin : Below w.heap.size w w3 := by
      first
        | exact ((HB0.out.trans (hbt.mono (by simp))).trans (hbf.mono (by omega))).grown hgrow3 (by omega) (fun k hk => by have h9 : w.heap.size + 1 ≤ k := (own_lt hot2 hk).1; omega)
        | exact ((HB0.out.trans (hbf.mono (by simp))).trans (hbt.mono (by omega))).grown hgrow3 (by omega) (fun k hk => by have h9 : w.heap.size + 1 ≤ k := (own_lt hot2 hk).1; omega)
    have HBS := Lib.hid hbs
    have HF := Lib.hid hfin
    have HE := Lib.hid e1
    clear hot hbt bt1 bt2 st st2 hot2 hof hbf bf1 bf2 sf sf2 hof2 hown3 hgrow3 hat3 q0 e1 e2 hbs hfin
    go_wp2
    go_ret
    exact ⟨a3, c3, by rw [HE.out]; rfl, by rw [HE.out]; exact HBS.out, HF.out⟩
end Go.Proofs.Ytogcnfhmcpkdcaa
