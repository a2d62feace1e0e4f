/-
  Contract of Eye.Num: a number is read, or refused, as the plain law says.
-/
import Derived.Test.YtogcnfhmcpkdcaaGreatEyeM
import Derived.Laws.Bits64b
namespace Go.Proofs.YtogcnfhmcpkdcaaGreat
open Go.RowKit
set_option linter.unusedVariables false

/-- what a reading comes to: a panic with the error, or a value and the rest -/
def EyeRead {α : Type} (q : Nat) (r : Res α) (w w' : World) (e : Ending) (is : α → Prop) : Prop :=
  But q w w' ∧ match r with
    | .err x => e = broke x
    | .ok v rest => is v ∧ EyeAt w' q rest

theorem be_snoc (l : List UInt8) (c : UInt8) : be (l ++ [c]) = be l * 256 + c.toNat := by simp [be]

theorem be_lt (l : List UInt8) : be l < 256 ^ l.length := by
  induction l using snocInd with
  | h0 => simp [be]
  | h1 l c ih =>
    rw [be_snoc]; simp [Nat.pow_succ]
    have := c.toNat_lt
    omega

theorem or256 (v c : Nat) (hv : v < 2 ^ 56) (hc : c < 256) : bits BinOp.or IntKind.u64 ((v : Int) * 256) (c : Int) = ((v * 256 + c : Nat) : Int) := by
  rw [show (v : Int) * 256 = ((v * 256 : Nat) : Int) by omega, bits_or_u64_nat _ _ (by omega) (by omega)]
  congr 1
  rw [show v * 256 = 2 ^ 8 * v by omega, Nat.two_pow_add_eq_or_of_lt (by omega)]

set_option maxHeartbeats 2000000 in
theorem eyeNum (q most : Nat) (l : List UInt8) (w : World) (h : EyeAt w q l) :
    Calls Tryz.prog 96 #[.pointer (some ⟨q, 0, none⟩), .int .u64 most] w fun e w' => EyeRead q (getNum most l) w w' e fun v => e = .returned (.int .u64 v) := by
  cases l with
  | nil =>
    go_enter Tryz.func96, Tryz.ntmps96
    go_wp2_with fail
    refine (eyeTake q 1 _ _ h).mono ?_
    rintro e w1 ⟨hb, hno, -⟩
    obtain rfl := hno (by simp)
    go_wp2
    exact ⟨rfl, hb, rfl⟩
  | cons k r =>
    have hk8 := k.toNat_lt
    obtain ⟨N, hN⟩ : ∃ N, N = getNum most (k :: r) := ⟨_, rfl⟩
    rw [← hN]
    have HN := Lib.hid hN
    clear hN
    go_enter Tryz.func96, Tryz.ntmps96
    go_wp2_with fail
    refine (eyeTake q 1 _ _ h).mono ?_
    rintro e w1 ⟨hb, -, hyes⟩
    obtain ⟨a, rfl, hbs, heye⟩ := hyes (by simp)
    simp only [List.drop_succ_cons, List.drop_zero, List.take_succ_cons, List.take_zero] at hbs heye
    obtain ⟨b, o, rfl, hbb, hc⟩ := hbs.hat (by omega)
    have hc0 : w1.cell? ⟨b, o, none⟩ = some (.int .u8 (k.toNat : Int)) := by
      have h9 := hc 0 (by omega)
      rw [Nat.add_zero] at h9
      exact h9
    clear hc hbs hyes
    have HB := Lib.hid hb
    clear hb h
    by_cases h8 : 8 < k.toNat
    · have b1 : decide ((8 : Int) < (k.toNat : Int)) = true := by simp; omega
      have hN : N = .err 3 := by rw [HN.out]; simp [getNum, h8]
      subst hN
      go_wp2_with fail
      refine (eyeFail_no _ 3 (by decide) _).mono ?_
      rintro e w2 ⟨rfl, rfl⟩
      go_wp2
      exact ⟨rfl, HB.out, rfl⟩
    · have b1 : decide ((8 : Int) < (k.toNat : Int)) = false := by simp; omega
      go_wp2_with fail
      refine (eyeTake q k.toNat _ _ heye).mono ?_
      rintro e w2 ⟨hb2, hno, hyes⟩
      have HB2 := Lib.hid (HB.out.trans hb2)
      clear HB hb2
      by_cases hsh : r.length < k.toNat
      · obtain rfl := hno hsh
        have hN : N = .err 2 := by rw [HN.out]; simp [getNum, h8, hsh]
        subst hN
        go_wp2
        exact ⟨rfl, HB2.out, rfl⟩
      · obtain ⟨a2, rfl, hbs2, heye2⟩ := hyes (by omega)
        clear hno hyes
        obtain ⟨K, hK⟩ : ∃ K, K = k.toNat := ⟨_, rfl⟩
        obtain ⟨rs, hrs⟩ : ∃ rs, rs = r.take k.toNat := ⟨_, rfl⟩
        have hN2 : N = if 0 < K ∧ rs.getD 0 0 = 0 then .err 3 else if most < be rs then .err 5 else .ok (be rs) (r.drop K) := by
          rw [HN.out, hK, hrs]
          simp only [getNum, h8, hsh, if_false]
          by_cases h0 : 0 < k.toNat
          · rw [show (r.take k.toNat).getD 0 0 = r.getD 0 0 by simp [List.getD, List.getElem?_take_of_lt h0]]
          · simp [h0]
        have HN2 := Lib.hid hN2
        have hlen := hbs2.hlen
        rw [← hrs, ← hK] at hbs2
        rw [← hrs, ← hK] at hlen
        rw [← hK] at heye2
        rw [← hK]
        have HE := Lib.hid heye2
        have h8' : K ≤ 8 := by omega
        clear hK hrs hN2 HN hc0 heye2 b1 h8 hsh hk8
        go_wp2_with fail
        go_loopw [6, 22] (fun v j wr => ∃ jj : Nat, jj ≤ K ∧ j = .int .i64 jj ∧ v = .int .u64 (be (rs.take jj) : Nat) ∧ wr = w2 ∧ (0 < jj → rs.getD 0 0 ≠ 0))
          (fun _ j _ => K - (intOf j).toNat)
        case atStart => exact ⟨0, by omega, rfl, rfl, rfl, fun h => absurd h (by omega)⟩
        case round =>
          obtain ⟨jj, hjj, rfl, rfl, rfl, hnz⟩ := hrel
          by_cases hlt : jj < K
          · obtain ⟨b3, o3, rfl, hb3, hc3⟩ := hbs2.hat (by omega)
            have hc4 := hc3 jj hlt
            obtain ⟨c, hc⟩ : ∃ c, c = rs.getD jj 0 := ⟨_, rfl⟩
            rw [← hc] at hc4
            have hsn : rs.take (jj + 1) = rs.take jj ++ [c] := by rw [hc, List.take_succ_eq_append_getElem (by omega)]; simp [List.getD, List.getElem?_eq_getElem (show jj < rs.length by omega)]
            have hbe : be (rs.take (jj + 1)) = be (rs.take jj) * 256 + c.toNat := by rw [hsn, be_snoc]
            have hvl := be_lt (rs.take jj)
            have hvl2 : be (rs.take jj) < 2 ^ 56 := by
              have h1 : (rs.take jj).length ≤ 7 := by simp; omega
              have h2 : (256 : Nat) ^ (rs.take jj).length ≤ 256 ^ 7 := Nat.pow_le_pow_right (by omega) h1
              have h3 : (256 : Nat) ^ 7 = 2 ^ 56 := by decide
              omega
            obtain ⟨v, hv⟩ : ∃ v, v = be (rs.take jj) := ⟨_, rfl⟩
            rw [← hv] at hbe hvl2 ⊢
            have hcl := c.toNat_lt
            have HBE := Lib.hid hbe
            have HC := Lib.hid hc
            clear hvl hv hsn hc3 hbe hc
            have hk0 : (0 : Int) ≤ (jj : Int) := by omega
            have hk1 : (jj : Int) < (K : Int) := by omega
            by_cases hj0 : jj = 0
            · have t1 : ((jj : Int) == 0) = true := by simp; omega
              have HC0 : rs.getD 0 0 = c := by rw [HC.out, hj0]
              have HJ := Lib.hid hj0
              have HC1 := Lib.hid HC0
              clear HC0 hj0 hnz
              by_cases hcz : c = 0
              · have t2 : ((c.toNat : Int) == 0) = true := by rw [hcz]; rfl
                have hN : N = .err 3 := by rw [HN2.out, if_pos ⟨by omega, by rw [HC1.out, hcz]⟩]
                subst hN
                have HCZ := Lib.hid hcz
                clear hcz
                go_wp2_with fail
                refine (eyeFail_no _ 3 (by decide) _).mono ?_
                rintro e w3 ⟨rfl, rfl⟩
                go_wp2
                exact ⟨rfl, HB2.out, rfl⟩
              · have t2 : ((c.toNat : Int) == 0) = false := by
                  have : c.toNat ≠ 0 := fun e => hcz (UInt8.toNat_inj.1 e)
                  simp; omega
                have HCZ := Lib.hid hcz
                clear hcz
                go_wp2_with fail
                go_roundw
                case rel => exact ⟨jj + 1, by omega, by go_num, by rw [HBE.out, or256 _ _ hvl2 (by omega)], trivial, fun _ => by rw [HC1.out]; exact HCZ.out⟩
                case measure => simp [intOf]; omega
            · have t1 : ((jj : Int) == 0) = false := by simp; omega
              go_wp2_with fail
              go_roundw
              case rel => exact ⟨jj + 1, by omega, by go_num, by rw [HBE.out, or256 _ _ hvl2 (by omega)], trivial, fun _ => hnz (by omega)⟩
              case measure => simp [intOf]; omega
          · have hjK : jj = K := by omega
            subst hjK
            have hrt : rs.take jj = rs := List.take_of_length_le (by omega)
            rw [hrt]
            by_cases hmo : most < be rs
            · have t1 : decide ((most : Int) < (be rs : Int)) = true := by simp; omega
              have hN : N = .err 5 := by rw [HN2.out, if_neg (by rintro ⟨h1, h2⟩; exact hnz h1 h2), if_pos hmo]
              subst hN
              go_wp2_with fail
              refine (eyeFail_no _ 5 (by decide) _).mono ?_
              rintro e w3 ⟨rfl, rfl⟩
              go_wp2
              exact ⟨rfl, HB2.out, rfl⟩
            · have t1 : decide ((most : Int) < (be rs : Int)) = false := by simp; omega
              have hN : N = .ok (be rs) (r.drop jj) := by rw [HN2.out, if_neg (by rintro ⟨h1, h2⟩; exact hnz h1 h2), if_neg hmo]
              subst hN
              go_wp2
              go_ret
              exact ⟨HB2.out, rfl, HE.out⟩
end Go.Proofs.YtogcnfhmcpkdcaaGreat
