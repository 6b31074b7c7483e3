/- NatSums: sums and products don't hang on order and brackets, and products go through sums. No condition. -/
import Derived.Test.YticheiocmhaakaaDoorNatN
namespace Go.Proofs.YticheiocmhaakaaDoor
open Go.RowKit

set_option maxRecDepth 100000 in
set_option maxHeartbeats 3200000 in
theorem natSums_any (A0 : Option Addr) (n0 c0 : Nat) (l0 : List Nat) (A1 : Option Addr) (n1 c1 : Nat) (l1 : List Nat) (A2 : Option Addr) (n2 c2 : Nat) (l2 : List Nat) (w : World) (hr_0 : Lim w A0 n0 c0 l0) (hn0 : n0 ≤ maxLen) (hr_1 : Lim w A1 n1 c1 l1) (hn1 : n1 ≤ maxLen) (hr_2 : Lim w A2 n2 c2 l2) (hn2 : n2 ≤ maxLen) :
    Calls Tryd.prog 4 #[.slice A0 n0 c0, .slice A1 n1 c1, .slice A2 n2 c2] w fun e w' => e = .returned (.bool true) ∧ Below w.heap.size w w' := by
  unfold maxLen at hn0 hn1 hn2
  by_cases h0 : 12 < n0
  · go_enter Tryd.func4, Tryd.ntmps4
    go_wp2_with fail
    refine (awake_any _).mono ?_; rintro e w1 ⟨rfl, b1⟩
    go_wp2_with fail
    go_ret
    exact ⟨rfl, b1⟩
  by_cases h1 : 12 < n1
  · go_enter Tryd.func4, Tryd.ntmps4
    go_wp2_with fail
    refine (awake_any _).mono ?_; rintro e w1 ⟨rfl, b1⟩
    go_wp2_with fail
    go_ret
    exact ⟨rfl, b1⟩
  by_cases h2 : 12 < n2
  · go_enter Tryd.func4, Tryd.ntmps4
    go_wp2_with fail
    refine (awake_any _).mono ?_; rintro e w1 ⟨rfl, b1⟩
    go_wp2_with fail
    go_ret
    exact ⟨rfl, b1⟩
  go_enter Tryd.func4, Tryd.ntmps4
  have B0 := Below.refl w.heap.size w
  go_wp2_with fail
  refine (awake_any _).mono ?_
  rintro e w1 ⟨rfl, b1⟩
  have B1 := below_step B0 b1 B0.size
  go_wp2_with fail
  refine (add_any _ _ _ _ _ _ _ _ _ (hr_0.below B1) (hr_1.below B1) (by omega) (by omega)).mono ?_
  rintro e w2 ⟨A_p, m_p, rfl, hm_p, o_p, b2⟩
  have B2 := below_step B1 b2 B1.size
  go_wp2_with fail
  refine (add_any _ _ _ _ _ _ _ _ _ (hr_1.below B2) (hr_0.below B2) (by omega) (by omega)).mono ?_
  rintro e w3 ⟨A_q, m_q, rfl, hm_q, o_q, b3⟩
  replace o_p := o_p.below b3
  have B3 := below_step B2 b3 B2.size
  go_wp2_with fail
  refine (same_true _ _ _ _ _ _ _ _ _ o_p.ints o_q.ints (by omega) (by omega) (by rw [Nat.add_comm])).mono ?_
  rintro e w4 ⟨rfl, b4⟩
  replace o_p := o_p.below b4
  replace o_q := o_q.below b4
  have B4 := below_step B3 b4 B3.size
  go_wp2_with fail
  refine (mul_any _ _ _ _ _ _ _ _ _ (hr_0.below B4) (hr_1.below B4) (by omega) (by omega)).mono ?_
  rintro e w5 ⟨A_r, m_r, rfl, hm_r, o_r, b5⟩
  replace o_p := o_p.below b5
  replace o_q := o_q.below b5
  have B5 := below_step B4 b5 B4.size
  go_wp2_with fail
  refine (mul_any _ _ _ _ _ _ _ _ _ (hr_1.below B5) (hr_0.below B5) (by omega) (by omega)).mono ?_
  rintro e w6 ⟨A_s, m_s, rfl, hm_s, o_s, b6⟩
  replace o_p := o_p.below b6
  replace o_q := o_q.below b6
  replace o_r := o_r.below b6
  have B6 := below_step B5 b6 B5.size
  go_wp2_with fail
  refine (same_true _ _ _ _ _ _ _ _ _ o_r.ints o_s.ints (by omega) (by omega) (by rw [Nat.mul_comm])).mono ?_
  rintro e w7 ⟨rfl, b7⟩
  replace o_p := o_p.below b7
  replace o_q := o_q.below b7
  replace o_r := o_r.below b7
  replace o_s := o_s.below b7
  have B7 := below_step B6 b7 B6.size
  go_wp2_with fail
  refine (add_any _ _ _ _ _ _ _ _ _ (hr_0.below B7) (hr_1.below B7) (by omega) (by omega)).mono ?_
  rintro e w8 ⟨A_t, m_t, rfl, hm_t, o_t, b8⟩
  replace o_p := o_p.below b8
  replace o_q := o_q.below b8
  replace o_r := o_r.below b8
  replace o_s := o_s.below b8
  have B8 := below_step B7 b8 B7.size
  go_wp2_with fail
  refine (add_any _ _ _ _ _ _ _ _ _ o_t.ints (hr_2.below B8) (by omega) (by omega)).mono ?_
  rintro e w9 ⟨A_u, m_u, rfl, hm_u, o_u, b9⟩
  replace o_p := o_p.below b9
  replace o_q := o_q.below b9
  replace o_r := o_r.below b9
  replace o_s := o_s.below b9
  replace o_t := o_t.below b9
  have B9 := below_step B8 b9 B8.size
  go_wp2_with fail
  refine (add_any _ _ _ _ _ _ _ _ _ (hr_1.below B9) (hr_2.below B9) (by omega) (by omega)).mono ?_
  rintro e w10 ⟨A_v, m_v, rfl, hm_v, o_v, b10⟩
  replace o_p := o_p.below b10
  replace o_q := o_q.below b10
  replace o_r := o_r.below b10
  replace o_s := o_s.below b10
  replace o_t := o_t.below b10
  replace o_u := o_u.below b10
  have B10 := below_step B9 b10 B9.size
  go_wp2_with fail
  refine (add_any _ _ _ _ _ _ _ _ _ (hr_0.below B10) o_v.ints (by omega) (by omega)).mono ?_
  rintro e w11 ⟨A_x, m_x, rfl, hm_x, o_x, b11⟩
  replace o_p := o_p.below b11
  replace o_q := o_q.below b11
  replace o_r := o_r.below b11
  replace o_s := o_s.below b11
  replace o_t := o_t.below b11
  replace o_u := o_u.below b11
  replace o_v := o_v.below b11
  have B11 := below_step B10 b11 B10.size
  go_wp2_with fail
  refine (same_true _ _ _ _ _ _ _ _ _ o_u.ints o_x.ints (by omega) (by omega) (by rw [vl_lmb, vl_lmb, Nat.add_assoc])).mono ?_
  rintro e w12 ⟨rfl, b12⟩
  replace o_p := o_p.below b12
  replace o_q := o_q.below b12
  replace o_r := o_r.below b12
  replace o_s := o_s.below b12
  replace o_t := o_t.below b12
  replace o_u := o_u.below b12
  replace o_v := o_v.below b12
  replace o_x := o_x.below b12
  have B12 := below_step B11 b12 B11.size
  go_wp2_with fail
  refine (mul_any _ _ _ _ _ _ _ _ _ (hr_0.below B12) (hr_1.below B12) (by omega) (by omega)).mono ?_
  rintro e w13 ⟨A_t2, m_t2, rfl, hm_t2, o_t2, b13⟩
  replace o_p := o_p.below b13
  replace o_q := o_q.below b13
  replace o_r := o_r.below b13
  replace o_s := o_s.below b13
  replace o_t := o_t.below b13
  replace o_u := o_u.below b13
  replace o_v := o_v.below b13
  replace o_x := o_x.below b13
  have B13 := below_step B12 b13 B12.size
  go_wp2_with fail
  refine (mul_any _ _ _ _ _ _ _ _ _ o_t2.ints (hr_2.below B13) (by omega) (by omega)).mono ?_
  rintro e w14 ⟨A_u2, m_u2, rfl, hm_u2, o_u2, b14⟩
  replace o_p := o_p.below b14
  replace o_q := o_q.below b14
  replace o_r := o_r.below b14
  replace o_s := o_s.below b14
  replace o_t := o_t.below b14
  replace o_u := o_u.below b14
  replace o_v := o_v.below b14
  replace o_x := o_x.below b14
  replace o_t2 := o_t2.below b14
  have B14 := below_step B13 b14 B13.size
  go_wp2_with fail
  refine (mul_any _ _ _ _ _ _ _ _ _ (hr_1.below B14) (hr_2.below B14) (by omega) (by omega)).mono ?_
  rintro e w15 ⟨A_v2, m_v2, rfl, hm_v2, o_v2, b15⟩
  replace o_p := o_p.below b15
  replace o_q := o_q.below b15
  replace o_r := o_r.below b15
  replace o_s := o_s.below b15
  replace o_t := o_t.below b15
  replace o_u := o_u.below b15
  replace o_v := o_v.below b15
  replace o_x := o_x.below b15
  replace o_t2 := o_t2.below b15
  replace o_u2 := o_u2.below b15
  have B15 := below_step B14 b15 B14.size
  go_wp2_with fail
  refine (mul_any _ _ _ _ _ _ _ _ _ (hr_0.below B15) o_v2.ints (by omega) (by omega)).mono ?_
  rintro e w16 ⟨A_x2, m_x2, rfl, hm_x2, o_x2, b16⟩
  replace o_p := o_p.below b16
  replace o_q := o_q.below b16
  replace o_r := o_r.below b16
  replace o_s := o_s.below b16
  replace o_t := o_t.below b16
  replace o_u := o_u.below b16
  replace o_v := o_v.below b16
  replace o_x := o_x.below b16
  replace o_t2 := o_t2.below b16
  replace o_u2 := o_u2.below b16
  replace o_v2 := o_v2.below b16
  have B16 := below_step B15 b16 B15.size
  go_wp2_with fail
  refine (same_true _ _ _ _ _ _ _ _ _ o_u2.ints o_x2.ints (by omega) (by omega) (by rw [vl_lmb, vl_lmb, Nat.mul_assoc])).mono ?_
  rintro e w17 ⟨rfl, b17⟩
  replace o_p := o_p.below b17
  replace o_q := o_q.below b17
  replace o_r := o_r.below b17
  replace o_s := o_s.below b17
  replace o_t := o_t.below b17
  replace o_u := o_u.below b17
  replace o_v := o_v.below b17
  replace o_x := o_x.below b17
  replace o_t2 := o_t2.below b17
  replace o_u2 := o_u2.below b17
  replace o_v2 := o_v2.below b17
  replace o_x2 := o_x2.below b17
  have B17 := below_step B16 b17 B16.size
  go_wp2_with fail
  refine (add_any _ _ _ _ _ _ _ _ _ (hr_1.below B17) (hr_2.below B17) (by omega) (by omega)).mono ?_
  rintro e w18 ⟨A_y, m_y, rfl, hm_y, o_y, b18⟩
  replace o_p := o_p.below b18
  replace o_q := o_q.below b18
  replace o_r := o_r.below b18
  replace o_s := o_s.below b18
  replace o_t := o_t.below b18
  replace o_u := o_u.below b18
  replace o_v := o_v.below b18
  replace o_x := o_x.below b18
  replace o_t2 := o_t2.below b18
  replace o_u2 := o_u2.below b18
  replace o_v2 := o_v2.below b18
  replace o_x2 := o_x2.below b18
  have B18 := below_step B17 b18 B17.size
  go_wp2_with fail
  refine (mul_any _ _ _ _ _ _ _ _ _ (hr_0.below B18) o_y.ints (by omega) (by omega)).mono ?_
  rintro e w19 ⟨A_y2, m_y2, rfl, hm_y2, o_y2, b19⟩
  replace o_p := o_p.below b19
  replace o_q := o_q.below b19
  replace o_r := o_r.below b19
  replace o_s := o_s.below b19
  replace o_t := o_t.below b19
  replace o_u := o_u.below b19
  replace o_v := o_v.below b19
  replace o_x := o_x.below b19
  replace o_t2 := o_t2.below b19
  replace o_u2 := o_u2.below b19
  replace o_v2 := o_v2.below b19
  replace o_x2 := o_x2.below b19
  replace o_y := o_y.below b19
  have B19 := below_step B18 b19 B18.size
  go_wp2_with fail
  refine (mul_any _ _ _ _ _ _ _ _ _ (hr_0.below B19) (hr_1.below B19) (by omega) (by omega)).mono ?_
  rintro e w20 ⟨A_z, m_z, rfl, hm_z, o_z, b20⟩
  replace o_p := o_p.below b20
  replace o_q := o_q.below b20
  replace o_r := o_r.below b20
  replace o_s := o_s.below b20
  replace o_t := o_t.below b20
  replace o_u := o_u.below b20
  replace o_v := o_v.below b20
  replace o_x := o_x.below b20
  replace o_t2 := o_t2.below b20
  replace o_u2 := o_u2.below b20
  replace o_v2 := o_v2.below b20
  replace o_x2 := o_x2.below b20
  replace o_y := o_y.below b20
  replace o_y2 := o_y2.below b20
  have B20 := below_step B19 b20 B19.size
  go_wp2_with fail
  refine (mul_any _ _ _ _ _ _ _ _ _ (hr_0.below B20) (hr_2.below B20) (by omega) (by omega)).mono ?_
  rintro e w21 ⟨A_z2, m_z2, rfl, hm_z2, o_z2, b21⟩
  replace o_p := o_p.below b21
  replace o_q := o_q.below b21
  replace o_r := o_r.below b21
  replace o_s := o_s.below b21
  replace o_t := o_t.below b21
  replace o_u := o_u.below b21
  replace o_v := o_v.below b21
  replace o_x := o_x.below b21
  replace o_t2 := o_t2.below b21
  replace o_u2 := o_u2.below b21
  replace o_v2 := o_v2.below b21
  replace o_x2 := o_x2.below b21
  replace o_y := o_y.below b21
  replace o_y2 := o_y2.below b21
  replace o_z := o_z.below b21
  have B21 := below_step B20 b21 B20.size
  go_wp2_with fail
  refine (add_any _ _ _ _ _ _ _ _ _ o_z.ints o_z2.ints (by omega) (by omega)).mono ?_
  rintro e w22 ⟨A_z3, m_z3, rfl, hm_z3, o_z3, b22⟩
  replace o_p := o_p.below b22
  replace o_q := o_q.below b22
  replace o_r := o_r.below b22
  replace o_s := o_s.below b22
  replace o_t := o_t.below b22
  replace o_u := o_u.below b22
  replace o_v := o_v.below b22
  replace o_x := o_x.below b22
  replace o_t2 := o_t2.below b22
  replace o_u2 := o_u2.below b22
  replace o_v2 := o_v2.below b22
  replace o_x2 := o_x2.below b22
  replace o_y := o_y.below b22
  replace o_y2 := o_y2.below b22
  replace o_z := o_z.below b22
  replace o_z2 := o_z2.below b22
  have B22 := below_step B21 b22 B21.size
  go_wp2_with fail
  refine (same_true _ _ _ _ _ _ _ _ _ o_y2.ints o_z3.ints (by omega) (by omega) (by rw [vl_lmb, vl_lmb, vl_lmb, Nat.mul_add])).mono ?_
  rintro e w23 ⟨rfl, b23⟩
  replace o_p := o_p.below b23
  replace o_q := o_q.below b23
  replace o_r := o_r.below b23
  replace o_s := o_s.below b23
  replace o_t := o_t.below b23
  replace o_u := o_u.below b23
  replace o_v := o_v.below b23
  replace o_x := o_x.below b23
  replace o_t2 := o_t2.below b23
  replace o_u2 := o_u2.below b23
  replace o_v2 := o_v2.below b23
  replace o_x2 := o_x2.below b23
  replace o_y := o_y.below b23
  replace o_y2 := o_y2.below b23
  replace o_z := o_z.below b23
  replace o_z2 := o_z2.below b23
  replace o_z3 := o_z3.below b23
  have B23 := below_step B22 b23 B22.size
  go_wp2_with fail
  go_ret
  exact ⟨rfl, B23⟩
end Go.Proofs.YticheiocmhaakaaDoor
