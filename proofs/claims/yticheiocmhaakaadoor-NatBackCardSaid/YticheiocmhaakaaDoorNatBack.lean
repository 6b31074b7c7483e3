/- NatBack: what is added and taken away is as it was; what is multiplied and divided, too, without a rest. No condition. -/
import Derived.Test.YticheiocmhaakaaDoorLawNat
namespace Go.Proofs.YticheiocmhaakaaDoor
open Go.RowKit

set_option maxRecDepth 100000 in
set_option maxHeartbeats 3200000 in
theorem natBack_any (A0 : Option Addr) (n0 c0 : Nat) (l0 : List Nat) (A1 : Option Addr) (n1 c1 : Nat) (l1 : List Nat) (w : World) (hr_0 : Lim w A0 n0 c0 l0) (hn0 : n0 ≤ maxLen) (hr_1 : Lim w A1 n1 c1 l1) (hn1 : n1 ≤ maxLen) :
    Calls Tryd.prog 5 #[.slice A0 n0 c0, .slice A1 n1 c1] w fun e w' => e = .returned (.bool true) ∧ Below w.heap.size w w' := by
  unfold maxLen at hn0 hn1
  by_cases h0 : 12 < n0
  · go_enter Tryd.func5, Tryd.ntmps5
    go_wp2_with fail
    refine (awake_any _).mono ?_; rintro e w1 ⟨rfl, b1⟩
    go_wp2_with fail
    go_ret
    exact ⟨rfl, b1⟩
  by_cases h1 : 12 < n1
  · go_enter Tryd.func5, Tryd.ntmps5
    go_wp2_with fail
    refine (awake_any _).mono ?_; rintro e w1 ⟨rfl, b1⟩
    go_wp2_with fail
    go_ret
    exact ⟨rfl, b1⟩
  go_enter Tryd.func5, Tryd.ntmps5
  have B0 := Below.refl w.heap.size w
  go_wp2_with fail
  refine (awake_any _).mono ?_
  rintro e w1 ⟨rfl, b1⟩
  have B1 := below_step B0 b1 B0.size
  go_wp2_with fail
  refine (add_any _ _ _ _ _ _ _ _ _ (hr_0.below B1) (hr_1.below B1) (by omega) (by omega)).mono ?_
  rintro e w2 ⟨A_s, m_s, rfl, hm_s, o_s, b2⟩
  have B2 := below_step B1 b2 B1.size
  go_wp2_with fail
  refine (sub_any _ _ _ _ _ _ _ _ _ o_s.ints (hr_1.below B2) (by omega) (by omega) (by rw [vl_lmb]; omega)).mono ?_
  rintro e w3 ⟨A_d, m_d, rfl, hm_d, o_d, b3⟩
  replace o_s := o_s.below b3
  have B3 := below_step B2 b3 B2.size
  go_wp2_with fail
  refine (mul_any _ _ _ _ _ _ _ _ _ (hr_0.below B3) (hr_1.below B3) (by omega) (by omega)).mono ?_
  rintro e w4 ⟨A_p, m_p, rfl, hm_p, o_p, b4⟩
  replace o_s := o_s.below b4
  replace o_d := o_d.below b4
  have B4 := below_step B3 b4 B3.size
  rcases Nat.eq_zero_or_pos (vl l1) with hv | hv
  · go_wp2_with fail
    refine (div_zero _ _ _ _ _ _ _ _ _ o_p.ints (hr_1.below B4) (by omega) (by omega) hv).mono ?_
    rintro e w5 ⟨rfl, b5⟩
    replace o_s := o_s.below b5
    replace o_d := o_d.below b5
    replace o_p := o_p.below b5
    have B5 := below_step B4 b5 B4.size
    go_wp2_with fail
    refine (rtrim_any _ _ _ _ _ (hr_1.below B5) (by omega)).mono ?_
    rintro e w6 ⟨A_z, m_z, c_z, rfl, hm_z, o_z, b6⟩
    replace o_s := o_s.below b6
    replace o_d := o_d.below b6
    replace o_p := o_p.below b6
    have B6 := below_step B5 b6 B5.size
    obtain rfl := lmb_len_zero o_z hv
    go_wp2_with fail
    refine (rtrim_any _ _ _ _ _ (hr_0.below B6) (by omega)).mono ?_
    rintro e w7 ⟨A_t, m_t, c_t, rfl, hm_t, o_t, b7⟩
    replace o_s := o_s.below b7
    replace o_d := o_d.below b7
    replace o_p := o_p.below b7
    replace o_z := o_z.below b7
    have B7 := below_step B6 b7 B6.size
    go_wp2_with fail
    refine (same_true _ _ _ _ _ _ _ _ _ o_d.ints o_t.ints (by omega) (by omega) (by rw [vl_lmb, Nat.add_sub_cancel])).mono ?_
    rintro e w8 ⟨rfl, b8⟩
    replace o_s := o_s.below b8
    replace o_d := o_d.below b8
    replace o_p := o_p.below b8
    replace o_z := o_z.below b8
    replace o_t := o_t.below b8
    have B8 := below_step B7 b8 B7.size
    go_wp2_with fail
    go_ret
    exact ⟨rfl, B8⟩
  · go_wp2_with fail
    refine (div_any _ _ _ _ _ _ _ _ _ o_p.ints (hr_1.below B4) (by omega) (by omega) hv).mono ?_
    rintro e w5 ⟨A_q, m_q, A_r, m_r, rfl, o_q, o_r, hm_q, hm_r, b5⟩
    replace o_s := o_s.below b5
    replace o_d := o_d.below b5
    replace o_p := o_p.below b5
    have B5 := below_step B4 b5 B4.size
    go_wp2_with fail
    refine (rtrim_any _ _ _ _ _ (hr_1.below B5) (by omega)).mono ?_
    rintro e w6 ⟨A_z, m_z, c_z, rfl, hm_z, o_z, b6⟩
    replace o_s := o_s.below b6
    replace o_d := o_d.below b6
    replace o_p := o_p.below b6
    replace o_q := o_q.below b6
    replace o_r := o_r.below b6
    have B6 := below_step B5 b6 B5.size
    have hz := lmb_len_pos o_z hv
    have hz2 : ((m_z : Int) == 0) = false := by simp; omega
    obtain rfl := lmb_len_zero o_r (by rw [vl_lmb]; exact Nat.mul_mod_left _ _)
    go_wp2_with fail
    refine (rtrim_any _ _ _ _ _ (hr_0.below B6) (by omega)).mono ?_
    rintro e w7 ⟨A_t, m_t, c_t, rfl, hm_t, o_t, b7⟩
    replace o_s := o_s.below b7
    replace o_d := o_d.below b7
    replace o_p := o_p.below b7
    replace o_q := o_q.below b7
    replace o_r := o_r.below b7
    replace o_z := o_z.below b7
    have B7 := below_step B6 b7 B6.size
    go_wp2_with fail
    refine (same_true _ _ _ _ _ _ _ _ _ o_d.ints o_t.ints (by omega) (by omega) (by rw [vl_lmb, Nat.add_sub_cancel])).mono ?_
    rintro e w8 ⟨rfl, b8⟩
    replace o_s := o_s.below b8
    replace o_d := o_d.below b8
    replace o_p := o_p.below b8
    replace o_q := o_q.below b8
    replace o_r := o_r.below b8
    replace o_z := o_z.below b8
    replace o_t := o_t.below b8
    have B8 := below_step B7 b8 B7.size
    go_wp2_with fail
    refine (rtrim_any _ _ _ _ _ (hr_0.below B8) (by omega)).mono ?_
    rintro e w9 ⟨A_t2, m_t2, c_t2, rfl, hm_t2, o_t2, b9⟩
    replace o_s := o_s.below b9
    replace o_d := o_d.below b9
    replace o_p := o_p.below b9
    replace o_q := o_q.below b9
    replace o_r := o_r.below b9
    replace o_z := o_z.below b9
    replace o_t := o_t.below b9
    have B9 := below_step B8 b9 B8.size
    go_wp2_with fail
    refine (same_true _ _ _ _ _ _ _ _ _ o_q.ints o_t2.ints (by omega) (by omega) (by rw [vl_lmb, Nat.mul_div_cancel _ hv])).mono ?_
    rintro e w10 ⟨rfl, b10⟩
    replace o_s := o_s.below b10
    replace o_d := o_d.below b10
    replace o_p := o_p.below b10
    replace o_q := o_q.below b10
    replace o_r := o_r.below b10
    replace o_z := o_z.below b10
    replace o_t := o_t.below b10
    replace o_t2 := o_t2.below b10
    have B10 := below_step B9 b10 B9.size
    go_wp2_with fail
    go_ret
    exact ⟨rfl, B10⟩
end Go.Proofs.YticheiocmhaakaaDoor
