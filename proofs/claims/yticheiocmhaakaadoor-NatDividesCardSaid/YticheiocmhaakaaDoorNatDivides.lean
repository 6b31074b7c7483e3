/- NatDivides: of any two numbers quotient and rest, and the greatest divisor of both, are what the document says; a number is its quotient times the divisor, and the rest, which is less. No condition. -/
import Derived.Test.YticheiocmhaakaaDoorLawNat
namespace Go.Proofs.YticheiocmhaakaaDoor
open Go.RowKit

set_option maxRecDepth 100000 in
set_option maxHeartbeats 3200000 in
theorem natDivides_any (A0 : Option Addr) (n0 c0 : Nat) (l0 : List Nat) (A1 : Option Addr) (n1 c1 : Nat) (l1 : List Nat) (w : World) (hr_0 : Lim w A0 n0 c0 l0) (hn0 : n0 ≤ maxLen) (hr_1 : Lim w A1 n1 c1 l1) (hn1 : n1 ≤ maxLen) :
    Calls Tryd.prog 8 #[.slice A0 n0 c0, .slice A1 n1 c1] w fun e w' => e = .returned (.bool true) ∧ Below w.heap.size w w' := by
  unfold maxLen at hn0 hn1
  by_cases h0 : 14 < n0
  · go_enter Tryd.func8, Tryd.ntmps8
    go_wp2_with fail
    refine (awake_any _).mono ?_; rintro e w1 ⟨rfl, b1⟩
    go_wp2_with fail
    go_ret
    exact ⟨rfl, b1⟩
  by_cases h1 : 14 < n1
  · go_enter Tryd.func8, Tryd.ntmps8
    go_wp2_with fail
    refine (awake_any _).mono ?_; rintro e w1 ⟨rfl, b1⟩
    go_wp2_with fail
    go_ret
    exact ⟨rfl, b1⟩
  go_enter Tryd.func8, Tryd.ntmps8
  have B0 := Below.refl w.heap.size w
  go_wp2_with fail
  refine (awake_any _).mono ?_
  rintro e w1 ⟨rfl, b1⟩
  have B1 := below_step B0 b1 B0.size
  rcases Nat.eq_zero_or_pos (vl l1) with hv | hv
  · go_wp2_with fail
    refine (div_zero _ _ _ _ _ _ _ _ _ (hr_0.below B1) (hr_1.below B1) (by omega) (by omega) hv).mono ?_
    rintro e w2 ⟨rfl, b2⟩
    have B2 := below_step B1 b2 B1.size
    go_wp2_with fail
    refine (rDiv_zero _ _ _ _ _ _ _ _ _ (hr_0.below B2) (hr_1.below B2) (by omega) (by omega) hv).mono ?_
    rintro e w3 ⟨rfl, b3⟩
    have B3 := below_step B2 b3 B2.size
    go_wp2_with fail
    refine (same_true _ _ _ _ _ _ _ _ _ (Ints.nil_ _ _ _ _ _) (Ints.nil_ _ _ _ _ _) (by omega) (by omega) rfl).mono ?_
    rintro e w4 ⟨rfl, b4⟩
    have B4 := below_step B3 b4 B3.size
    go_wp2_with fail
    refine (same_true _ _ _ _ _ _ _ _ _ (Ints.nil_ _ _ _ _ _) (Ints.nil_ _ _ _ _ _) (by omega) (by omega) rfl).mono ?_
    rintro e w5 ⟨rfl, b5⟩
    have B5 := below_step B4 b5 B4.size
    go_wp2_with fail
    refine (gcd_any _ _ _ _ _ _ _ _ _ (hr_0.below B5) (hr_1.below B5) (by omega) (by omega)).mono ?_
    rintro e w6 ⟨A_g, m_g, rfl, hm_g, o_g, b6⟩
    have B6 := below_step B5 b6 B5.size
    go_wp2_with fail
    refine (rGcd_any _ _ _ _ _ _ _ _ _ (hr_0.below B6) (hr_1.below B6) (by omega) (by omega)).mono ?_
    rintro e w7 ⟨A_k, m_k, c_k, rfl, hm_k, o_k, b7⟩
    replace o_g := o_g.below b7
    have B7 := below_step B6 b7 B6.size
    go_wp2_with fail
    refine (same_true _ _ _ _ _ _ _ _ _ o_g.ints o_k.ints (by omega) (by omega) rfl).mono ?_
    rintro e w8 ⟨rfl, b8⟩
    replace o_g := o_g.below b8
    replace o_k := o_k.below b8
    have B8 := below_step B7 b8 B7.size
    go_wp2_with fail
    go_ret
    exact ⟨rfl, B8⟩
  · go_wp2_with fail
    refine (div_any _ _ _ _ _ _ _ _ _ (hr_0.below B1) (hr_1.below B1) (by omega) (by omega) hv).mono ?_
    rintro e w2 ⟨A_q, m_q, A_r, m_r, rfl, o_q, o_r, hm_q, hm_r, b2⟩
    have B2 := below_step B1 b2 B1.size
    go_wp2_with fail
    refine (rDiv_any _ _ _ _ _ _ _ _ _ (hr_0.below B2) (hr_1.below B2) (by omega) (by omega) hv).mono ?_
    rintro e w3 ⟨A_x, m_x, c_x, A_y, m_y, c_y, rfl, hm_x, hm_y, o_x, o_y, b3⟩
    replace o_q := o_q.below b3
    replace o_r := o_r.below b3
    have B3 := below_step B2 b3 B2.size
    go_wp2_with fail
    refine (same_true _ _ _ _ _ _ _ _ _ o_q.ints o_x.ints (by omega) (by omega) rfl).mono ?_
    rintro e w4 ⟨rfl, b4⟩
    replace o_q := o_q.below b4
    replace o_r := o_r.below b4
    replace o_x := o_x.below b4
    replace o_y := o_y.below b4
    have B4 := below_step B3 b4 B3.size
    go_wp2_with fail
    refine (same_true _ _ _ _ _ _ _ _ _ o_r.ints o_y.ints (by omega) (by omega) rfl).mono ?_
    rintro e w5 ⟨rfl, b5⟩
    replace o_q := o_q.below b5
    replace o_r := o_r.below b5
    replace o_x := o_x.below b5
    replace o_y := o_y.below b5
    have B5 := below_step B4 b5 B4.size
    go_wp2_with fail
    refine (gcd_any _ _ _ _ _ _ _ _ _ (hr_0.below B5) (hr_1.below B5) (by omega) (by omega)).mono ?_
    rintro e w6 ⟨A_g, m_g, rfl, hm_g, o_g, b6⟩
    replace o_q := o_q.below b6
    replace o_r := o_r.below b6
    replace o_x := o_x.below b6
    replace o_y := o_y.below b6
    have B6 := below_step B5 b6 B5.size
    go_wp2_with fail
    refine (rGcd_any _ _ _ _ _ _ _ _ _ (hr_0.below B6) (hr_1.below B6) (by omega) (by omega)).mono ?_
    rintro e w7 ⟨A_k, m_k, c_k, rfl, hm_k, o_k, b7⟩
    replace o_q := o_q.below b7
    replace o_r := o_r.below b7
    replace o_x := o_x.below b7
    replace o_y := o_y.below b7
    replace o_g := o_g.below b7
    have B7 := below_step B6 b7 B6.size
    go_wp2_with fail
    refine (same_true _ _ _ _ _ _ _ _ _ o_g.ints o_k.ints (by omega) (by omega) rfl).mono ?_
    rintro e w8 ⟨rfl, b8⟩
    replace o_q := o_q.below b8
    replace o_r := o_r.below b8
    replace o_x := o_x.below b8
    replace o_y := o_y.below b8
    replace o_g := o_g.below b8
    replace o_k := o_k.below b8
    have B8 := below_step B7 b8 B7.size
    go_wp2_with fail
    refine (mul_any _ _ _ _ _ _ _ _ _ o_q.ints (hr_1.below B8) (by omega) (by omega)).mono ?_
    rintro e w9 ⟨A_p, m_p, rfl, hm_p, o_p, b9⟩
    replace o_q := o_q.below b9
    replace o_r := o_r.below b9
    replace o_x := o_x.below b9
    replace o_y := o_y.below b9
    replace o_g := o_g.below b9
    replace o_k := o_k.below b9
    have B9 := below_step B8 b9 B8.size
    go_wp2_with fail
    refine (add_any _ _ _ _ _ _ _ _ _ o_p.ints o_r.ints (by omega) (by omega)).mono ?_
    rintro e w10 ⟨A_s, m_s, rfl, hm_s, o_s, b10⟩
    replace o_q := o_q.below b10
    replace o_r := o_r.below b10
    replace o_x := o_x.below b10
    replace o_y := o_y.below b10
    replace o_g := o_g.below b10
    replace o_k := o_k.below b10
    replace o_p := o_p.below b10
    have B10 := below_step B9 b10 B9.size
    go_wp2_with fail
    refine (rtrim_any _ _ _ _ _ (hr_0.below B10) (by omega)).mono ?_
    rintro e w11 ⟨A_t, m_t, c_t, rfl, hm_t, o_t, b11⟩
    replace o_q := o_q.below b11
    replace o_r := o_r.below b11
    replace o_x := o_x.below b11
    replace o_y := o_y.below b11
    replace o_g := o_g.below b11
    replace o_k := o_k.below b11
    replace o_p := o_p.below b11
    replace o_s := o_s.below b11
    have B11 := below_step B10 b11 B10.size
    go_wp2_with fail
    refine (same_true _ _ _ _ _ _ _ _ _ o_s.ints o_t.ints (by omega) (by omega) (by rw [vl_lmb, vl_lmb, vl_lmb, Nat.mul_comm, Nat.div_add_mod])).mono ?_
    rintro e w12 ⟨rfl, b12⟩
    replace o_q := o_q.below b12
    replace o_r := o_r.below b12
    replace o_x := o_x.below b12
    replace o_y := o_y.below b12
    replace o_g := o_g.below b12
    replace o_k := o_k.below b12
    replace o_p := o_p.below b12
    replace o_s := o_s.below b12
    replace o_t := o_t.below b12
    have B12 := below_step B11 b12 B11.size
    go_wp2_with fail
    refine (cmp_is _ _ _ _ _ _ _ _ _ o_r.ints (hr_1.below B12) (by omega) (by omega) (-1) (Num.cmp_lt (by rw [vl_lmb]; exact Nat.mod_lt _ hv))).mono ?_
    rintro e w13 ⟨rfl, b13⟩
    replace o_q := o_q.below b13
    replace o_r := o_r.below b13
    replace o_x := o_x.below b13
    replace o_y := o_y.below b13
    replace o_g := o_g.below b13
    replace o_k := o_k.below b13
    replace o_p := o_p.below b13
    replace o_s := o_s.below b13
    replace o_t := o_t.below b13
    have B13 := below_step B12 b13 B12.size
    go_wp2_with fail
    go_ret
    exact ⟨rfl, B13⟩
end Go.Proofs.YticheiocmhaakaaDoor
