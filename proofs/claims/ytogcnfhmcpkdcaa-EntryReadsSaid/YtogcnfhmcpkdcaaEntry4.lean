/-
  Contracts of the closure of entry.Read, of entry.Read and of entry.Decides.
-/
import Derived.Test.YtogcnfhmcpkdcaaEntry3
namespace Go.Proofs.Ytogcnfhmcpkdcaa
open Go.RowKit
set_option linter.unusedVariables false
set_option linter.unusedSimpArgs false

/-- what is read of an entry's fields -/
structure OkE (v : PEntry) (l rest : List UInt8) : Prop where
  len : v.tx.length = 32
  ex : ∃ K S A Y P : Nat, v = mkE K S v.tx A Y P ∧ K ≤ 3 ∧ S ≤ 63 ∧ A ≤ 4611686018427387904 ∧ Y ≤ 63 ∧ P ≤ 1099511627776 ∧ l = putE K S v.tx A Y P ++ rest

theorem getE_ok {l : List UInt8} {v : PEntry} {rest : List UInt8} (h : getE l = .ok v rest) : OkE v l rest := by
  unfold getE at h
  cases h1 : getNum 3 l with
  | err x => rw [h1] at h; cases h
  | ok k r1 =>
  rw [h1] at h; simp only [Res.bind_ok] at h
  cases h2 : getNum 63 r1 with
  | err x => rw [h2] at h; cases h
  | ok s r2 =>
  rw [h2] at h; simp only [Res.bind_ok] at h
  cases h3 : getTake 32 r2 with
  | err x => rw [h3] at h; cases h
  | ok d r3 =>
  rw [h3] at h; simp only [Res.bind_ok] at h
  cases h4 : getNum 4611686018427387904 r3 with
  | err x => rw [h4] at h; cases h
  | ok a r4 =>
  rw [h4] at h; simp only [Res.bind_ok] at h
  cases h5 : getNum 63 r4 with
  | err x => rw [h5] at h; cases h
  | ok y r5 =>
  rw [h5] at h; simp only [Res.bind_ok] at h
  cases h6 : getNum 1099511627776 r5 with
  | err x => rw [h6] at h; cases h
  | ok p r6 =>
  rw [h6] at h; simp only [Res.bind_ok] at h
  injection h with h7 h8
  subst h7 h8
  obtain ⟨t1, t2⟩ := take_put h3
  refine ⟨t2, k, s, a, y, p, rfl, getNum_most h1, getNum_most h2, getNum_most h4, getNum_most h5, getNum_most h6, ?_⟩
  rw [get_put h1, get_put h2, t1, get_put h4, get_put h5, get_put h6]
  simp [putE]

theorem getE_put {K S : Nat} {tx : List UInt8} {A Y P : Nat} (hK : K ≤ 3) (hS : S ≤ 63) (ht : tx.length = 32) (hA : A ≤ 4611686018427387904) (hY : Y ≤ 63) (hP : P ≤ 1099511627776) (rest : List UInt8) :
    getE (putE K S tx A Y P ++ rest) = .ok (mkE K S tx A Y P) rest := by
  simp only [getE, putE, List.append_assoc]
  rw [getNum_put 3 K _ (by omega) hK, Res.bind_ok, getNum_put 63 S _ (by omega) hS, Res.bind_ok, getTake_put _ _ _ ht, Res.bind_ok, getNum_put _ A _ (by omega) hA, Res.bind_ok, getNum_put 63 Y _ (by omega) hY, Res.bind_ok, getNum_put _ P _ (by omega) hP, Res.bind_ok]
  rfl

/-- what a reading of an entry hands back: the entry, the error's number -/
def outE (r : Res PEntry) : PEntry × Int :=
  match r with
  | .err x => (zeroE, x)
  | .ok v rest => if rest = [] ∧ v.k ≠ 0 then (v, 0) else (zeroE, 3)

set_option maxRecDepth 100000 in
set_option maxHeartbeats 2000000 in
theorem entryRead1 (q p : Nat) (cs : Array Value) (hcs : cs.size = 37) (l : List UInt8) (w : World) (h : EyeAt w q l) (hp : p < w.heap.size) (hpq : p ≠ q) (hc : w.heap[p]? = some (.cells cs 68 (0, 0))) :
    Calls Try.prog 115 #[.pointer (some ⟨q, 0, none⟩), .pointer (some ⟨p, 0, none⟩)] w fun e w' => ReadsTo q p (getE l) w w' e fun v => w'.heap[p]? = some (.cells (eagg v) 68 (0, 0)) := by
  obtain ⟨N, hN⟩ : ∃ N, N = getE l := ⟨_, rfl⟩
  rw [← hN]
  have HN := Lib.hid hN
  have HC := Lib.hid hc
  have HCS := Lib.hid hcs
  clear hN hc hcs
  go_enter Try.func115, Try.ntmps115
  go_wp2_with fail
  refine (entryLook q l _ h).mono ?_
  rintro e w1 ⟨hb1, hr1⟩
  rw [← HN.out] at hr1
  cases hg : N with
  | err x =>
    subst hg
    obtain rfl : e = broke x := hr1
    go_wp2
    exact ⟨rfl, .of_but hb1⟩
  | ok v r =>
    subst hg
    obtain ⟨rfl, heye⟩ := hr1
    have hv := (getE_ok HN.out.symm).len
    have hc1 := (hb1.block p hp hpq).trans HC.out
    have HC1 := Lib.hid hc1
    have HB1 := Lib.hid hb1
    have HE := Lib.hid heye
    have HSZ := Lib.hid (eagg_size v hv)
    clear hb1 heye hc1
    go_wp2_with (refine wpList_store_abs rfl 68 (.tmp 1) (.tmp 4) rfl p (eagg v) rfl rfl 68 _ HC1.out (by rw [HSZ.out]; exact infoEntry) (by rw [HSZ.out, HCS.out]) (eagg_one v) ?_; intro W2 hrow2 hoth2 hb2 hs2)
    go_end0
    have hp1 : p < w1.heap.size := Nat.lt_of_lt_of_le hp HB1.out.size
    refine ⟨hb2.os.trans HB1.out.os, hb2.tape.trans HB1.out.tape, hb2.output.trans HB1.out.output, by have := HB1.out.size; omega, fun k hk hkq hkp => (hoth2 k hkp).trans (HB1.out.block k hk hkq), (fun _ hh => by cases hh), fun v' rest hh => ?_⟩
    cases hh
    refine ⟨rfl, ?_, hrow2⟩
    obtain ⟨hq1, a, c, h1⟩ := HE.out.len
    exact ⟨by omega, a, c, (World.cell?_of_block (a := ⟨q, 0, none⟩) (hoth2 q (fun e => hpq e.symm))).trans h1⟩

theorem outE_len (l : List UInt8) : (outE (getE l)).1.tx.length = 32 := by
  cases h : getE l with
  | err x => rfl
  | ok v rest =>
    simp only [outE]
    split
    · exact (getE_ok h).len
    · rfl

set_option maxRecDepth 100000 in
set_option maxHeartbeats 4000000 in
theorem entryRead (l : List UInt8) (a : Option Addr) (n c : Nat) (w : World) (h : BsAt w w.heap.size a n c l) :
    Calls Try.prog 42 #[.slice a n c] w fun e w' => e = .returned (.tuple #[.agg (eagg (outE (getE l)).1), .int .i64 (outE (getE l)).2]) ∧ Below w.heap.size w w' := by
  obtain ⟨R, hR⟩ : ∃ R, R = getE l := ⟨_, rfl⟩
  have hsane := sane_E l
  rw [← hR] at hsane ⊢
  have HR := Lib.hid hR
  have HS := Lib.hid hsane
  have H := Lib.hid h
  have HZS := Lib.hid (eagg_size zeroE rfl)
  clear hR hsane h
  go_enter Try.func42, Try.ntmps42
  go_wp2_with (first
    | (refine wpList_alloc_abs rfl 68 rfl (eagg zeroE) zero_entry ?_; first | (guard_hyp HRW0 : _; intro W1 hrow1 hb1 hs1; have HRW1 := Lib.hid hrow1; have HB1 := Lib.hid hb1; clear hrow1 hb1) | (intro W0 hrow0 hb0 hs0; have HRW0 := Lib.hid hrow0; have HB0 := Lib.hid hb0; clear hrow0 hb0)))
  have hb01 : Below w.heap.size w W1 := HB0.out.trans (HB1.out.mono (by omega))
  have hrw0 := (HB1.out.block w.heap.size (by omega)).trans HRW0.out
  have hrw1 := HRW1.out
  rw [hs0] at hrw1
  have HBW := Lib.hid hb01
  have HR0 := Lib.hid hrw0
  have HR1 := Lib.hid hrw1
  clear hb01 hrw0 hrw1
  refine (fieldReadTo R HS.out l a n c 115 (enterOf Try.func115 (by kernel_rfl) rfl) #[] #[.pointer (some ⟨w.heap.size + 1, 0, none⟩)] (w.heap.size + 1) W1 (by omega) ((H.out.below HBW.out (Nat.le_refl _)).mono HBW.out.size)
    (fun _ w' v => w'.heap[w.heap.size + 1]? = some (.cells (eagg v) 68 (0, 0))) ?_).mono ?_
  · intro q w1 hb hq he
    show Calls _ 115 #[.pointer (some ⟨q, 0, none⟩), .pointer (some ⟨w.heap.size + 1, 0, none⟩)] w1 _
    rw [HR.out]
    exact entryRead1 q (w.heap.size + 1) (eagg zeroE) HZS.out l w1 he (by have := hb.size; omega) (by omega) ((hb.block _ (by omega)).trans HR1.out)
  · rintro e w2 ⟨rfl, hg, hok⟩
    have hb2 : Below w.heap.size w w2 := HBW.out.trans ((Below.refl _ W1).grown hg (by omega) (fun k e => by cases e; omega))
    have hs2 := hg.size
    have d0 : w2.heap[w.heap.size]? = some (.cells (eagg zeroE) 68 (0, 0)) := (hg.block w.heap.size (by omega) (by simp)).trans HR0.out
    have HD0 := Lib.hid d0
    have HB2 := Lib.hid hb2
    have HOK := Lib.hid hok
    clear hg hok hb2 d0
    by_cases hz : R.code = 0
    · obtain ⟨v, hv⟩ : ∃ v, R = .ok v [] := by
        cases hR : R with
        | err x => rw [hR] at hz; exact absurd hz (HS.out x hR)
        | ok v rest =>
          rw [hR] at hz
          by_cases hr : rest = []
          · exact ⟨v, by rw [hr]⟩
          · simp [Res.code, hr] at hz
      obtain ⟨w1, w', rb, k1, k2, k3, k4, k5, k6⟩ := HOK.out v hv
      have k7 := k4.size
      have d1 : w2.heap[w.heap.size + 1]? = some (.cells (eagg v) 68 (0, 0)) := (k6.block _ (by omega) (by omega)).trans k5
      have hvl : v.tx.length = 32 := (getE_ok (by rw [← HR.out]; exact hv)).len
      have HVS := Lib.hid (eagg_size v hvl)
      have HD1 := Lib.hid d1
      obtain ⟨c0, -, -, -, -⟩ := erow_cells hvl d1
      have t1 : (R.code != 0) = false := by simp [hz]
      by_cases hk : v.k = 0
      · have t2 : (v.k == 0) = true := by simpa using hk
        have ho : outE R = (zeroE, 3) := by rw [hv]; simp [outE, hk]
        have HO := Lib.hid ho
        have HZ := Lib.hid hz
        have HK := Lib.hid hk
        clear hz hv k4 k5 k6 d1 ho hk hvl
        go_wp2_with (first
          | (refine wpList_build_l rfl 68 [] rfl [] rfl (eagg zeroE) built_zeroE ?_)
          | (refine wpList_store_abs rfl 68 (.tmp 2) _ rfl w.heap.size (eagg zeroE) rfl rfl 68 _ HD0.out (by rw [HZS.out]; exact infoEntry) (by rw [HZS.out]) (eagg_one _) ?_; intro W5 hrow5 hoth5 hb5 hs5))
        refine bodyPost_ret (results_row_tmp rfl _ _ w.heap.size 68 _ (0, 0) _ rfl hrow5 Try.underlying68 rfl (by rw [HZS.out]; exact infoEntry)) rfl ⟨by rw [HO.out]; rfl, HB2.out.trans hb5⟩
      · have t2 : (v.k == 0) = false := by simpa using hk
        have ho : outE R = (v, 0) := by rw [hv]; simp [outE, hk]
        have HO := Lib.hid ho
        have HZ := Lib.hid hz
        have HK := Lib.hid hk
        clear hz hv k4 k5 k6 d1 ho hk hvl
        go_wp2_with (first
          | (refine wpList_load_is rfl 68 (.tmp 4) rfl (w.heap.size + 1) rfl 68 (eagg v) _ HD1.out Try.underlying68 rfl (by rw [HVS.out]; exact infoEntry) ?_)
          | (refine wpList_store_abs rfl 68 (.tmp 2) _ rfl w.heap.size (eagg v) rfl rfl 68 _ HD0.out (by rw [HVS.out]; exact infoEntry) (by rw [HZS.out, HVS.out]) (eagg_one _) ?_; intro W5 hrow5 hoth5 hb5 hs5))
        refine bodyPost_ret (results_row_tmp rfl _ _ w.heap.size 68 _ (0, 0) _ rfl hrow5 Try.underlying68 rfl (by rw [HVS.out]; exact infoEntry)) rfl ⟨by rw [HO.out]; rfl, HB2.out.trans hb5⟩
    · have t1 : (R.code != 0) = true := by simpa using hz
      have ho : outE R = (zeroE, R.code) := by
        cases hR : R with
        | err x => rfl
        | ok v rest =>
          rw [hR] at hz
          by_cases hr : rest = []
          · simp [Res.code, hr] at hz
          · simp [outE, Res.code, hr]
      have HO := Lib.hid ho
      have HZ := Lib.hid hz
      clear hz ho
      go_wp2_with (first
        | (refine wpList_build_l rfl 68 [] rfl [] rfl (eagg zeroE) built_zeroE ?_)
        | (refine wpList_store_abs rfl 68 (.tmp 2) _ rfl w.heap.size (eagg zeroE) rfl rfl 68 _ HD0.out (by rw [HZS.out]; exact infoEntry) (by rw [HZS.out]) (eagg_one _) ?_; intro W5 hrow5 hoth5 hb5 hs5))
      refine bodyPost_ret (results_row_tmp rfl _ _ w.heap.size 68 _ (0, 0) _ rfl hrow5 Try.underlying68 rfl (by rw [HZS.out]; exact infoEntry)) rfl ⟨by rw [HO.out]; rfl, HB2.out.trans hb5⟩

set_option maxRecDepth 100000 in
set_option maxHeartbeats 2000000 in
theorem entryDecides (x : PEntry) (hx : x.tx.length = 32) (w : World) :
    Calls Try.prog 63 #[.agg (eagg x)] w fun e w' => e = .returned (.bool (rightE x && x.k != 3)) ∧ Below w.heap.size w w' := by
  have HSZ := Lib.hid (eagg_size x hx)
  obtain ⟨r, hr⟩ : ∃ r, rightE x = r := ⟨_, rfl⟩
  obtain ⟨z, hz⟩ : ∃ z, (x.k != 3) = z := ⟨_, rfl⟩
  rw [hr, hz]
  have HR := Lib.hid hr
  clear hr
  go_enter Try.func63, Try.ntmps63
  go_wp2_with (first
    | (refine wpList_box_abs rfl 68 _ rfl (eagg x) rfl ?_; intro W0 hrow0 hb0 hs0; have HROW := Lib.hid hrow0; have HB0 := Lib.hid hb0; clear hrow0 hb0)
    | (refine wpList_load_is rfl 68 _ rfl w.heap.size rfl 68 (eagg x) _ HROW.out Try.underlying68 rfl (by rw [HSZ.out]; exact infoEntry) ?_))
  refine (entryRight x hx _).mono ?_
  rintro e w1 ⟨rfl, hb1⟩
  obtain ⟨c0, -, -, -, -⟩ := erow_cells hx ((hb1.block w.heap.size (by omega)).trans HROW.out)
  have HB1 := Lib.hid (HB0.out.trans (hb1.mono (by omega)))
  clear hb1
  rw [HR.out]
  cases r <;> cases z
  all_goals
    go_wp2
    go_ret
    exact ⟨rfl, HB1.out⟩
end Go.Proofs.Ytogcnfhmcpkdcaa
