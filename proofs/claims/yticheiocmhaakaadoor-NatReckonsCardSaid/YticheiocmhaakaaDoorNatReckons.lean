/- NatReckons: of any two numbers, trimmed or not, how they stand, sum, difference and product, are what the document says. No condition. -/
import Derived.Test.YticheiocmhaakaaDoorLawNat
namespace Go.Proofs.YticheiocmhaakaaDoor
open Go.RowKit

set_option maxRecDepth 100000 in
set_option maxHeartbeats 3200000 in
theorem natReckons_any (A0 : Option Addr) (n0 c0 : Nat) (l0 : List Nat) (A1 : Option Addr) (n1 c1 : Nat) (l1 : List Nat) (w : World) (hr_0 : Lim w A0 n0 c0 l0) (hn0 : n0 ≤ maxLen) (hr_1 : Lim w A1 n1 c1 l1) (hn1 : n1 ≤ maxLen) :
    Calls Tryd.prog 3 #[.slice A0 n0 c0, .slice A1 n1 c1] w fun e w' => e = .returned (.bool true) ∧ Below w.heap.size w w' := by
  unfold maxLen at hn0 hn1
  by_cases h0 : 40 < n0
  · go_enter Tryd.func3, Tryd.ntmps3
    go_wp2_with fail
    refine (awake_any _).mono ?_; rintro e w1 ⟨rfl, b1⟩
    go_wp2_with fail
    go_ret
    exact ⟨rfl, b1⟩
  by_cases h1 : 40 < n1
  · go_enter Tryd.func3, Tryd.ntmps3
    go_wp2_with fail
    refine (awake_any _).mono ?_; rintro e w1 ⟨rfl, b1⟩
    go_wp2_with fail
    go_ret
    exact ⟨rfl, b1⟩
  go_enter Tryd.func3, Tryd.ntmps3
  have B0 := Below.refl w.heap.size w
  go_wp2_with fail
  refine (awake_any _).mono ?_
  rintro e w1 ⟨rfl, b1⟩
  have B1 := below_step B0 b1 B0.size
  rcases Nat.lt_or_ge (vl l0) (vl l1) with hv | hv
  · go_wp2_with fail
    refine (sub_less _ _ _ _ _ _ _ _ _ (hr_0.below B1) (hr_1.below B1) (by omega) (by omega) hv).mono ?_
    rintro e w2 ⟨rfl, b2⟩
    have B2 := below_step B1 b2 B1.size
    go_wp2_with fail
    refine (rSub_less _ _ _ _ _ _ _ _ _ (hr_0.below B2) (hr_1.below B2) (by omega) (by omega) hv).mono ?_
    rintro e w3 ⟨rfl, b3⟩
    have B3 := below_step B2 b3 B2.size
    go_wp2_with fail
    refine (trim_any _ _ _ _ _ (hr_0.below B3) (by omega)).mono ?_
    rintro e w4 ⟨A_t, m_t, rfl, hm_t, o_t, b4⟩
    have B4 := below_step B3 b4 B3.size
    go_wp2_with fail
    refine (rtrim_any _ _ _ _ _ (hr_0.below B4) (by omega)).mono ?_
    rintro e w5 ⟨A_u, m_u, c_u, rfl, hm_u, o_u, b5⟩
    replace o_t := o_t.below b5
    have B5 := below_step B4 b5 B4.size
    go_wp2_with fail
    refine (same_true _ _ _ _ _ _ _ _ _ o_t.ints o_u.ints (by omega) (by omega) rfl).mono ?_
    rintro e w6 ⟨rfl, b6⟩
    replace o_t := o_t.below b6
    replace o_u := o_u.below b6
    have B6 := below_step B5 b6 B5.size
    go_wp2_with fail
    refine (cmp_any _ _ _ _ _ _ _ _ _ (hr_0.below B6) (hr_1.below B6) (by omega) (by omega)).mono ?_
    rintro e w7 ⟨rfl, b7⟩
    replace o_t := o_t.below b7
    replace o_u := o_u.below b7
    have B7 := below_step B6 b7 B6.size
    go_wp2_with fail
    refine (rCmp_any _ _ _ _ _ _ _ _ _ (hr_0.below B7) (hr_1.below B7) (by omega) (by omega)).mono ?_
    rintro e w8 ⟨rfl, b8⟩
    replace o_t := o_t.below b8
    replace o_u := o_u.below b8
    have B8 := below_step B7 b8 B7.size
    go_wp2_with fail
    refine (add_any _ _ _ _ _ _ _ _ _ (hr_0.below B8) (hr_1.below B8) (by omega) (by omega)).mono ?_
    rintro e w9 ⟨A_s, m_s, rfl, hm_s, o_s, b9⟩
    replace o_t := o_t.below b9
    replace o_u := o_u.below b9
    have B9 := below_step B8 b9 B8.size
    go_wp2_with fail
    refine (rAdd_any _ _ _ _ _ _ _ _ _ (hr_0.below B9) (hr_1.below B9) (by omega) (by omega)).mono ?_
    rintro e w10 ⟨A_s2, m_s2, c_s2, rfl, hm_s2, o_s2, b10⟩
    replace o_t := o_t.below b10
    replace o_u := o_u.below b10
    replace o_s := o_s.below b10
    have B10 := below_step B9 b10 B9.size
    go_wp2_with fail
    refine (same_true _ _ _ _ _ _ _ _ _ o_s.ints o_s2.ints (by omega) (by omega) rfl).mono ?_
    rintro e w11 ⟨rfl, b11⟩
    replace o_t := o_t.below b11
    replace o_u := o_u.below b11
    replace o_s := o_s.below b11
    replace o_s2 := o_s2.below b11
    have B11 := below_step B10 b11 B10.size
    go_wp2_with fail
    refine (same_true _ _ _ _ _ _ _ _ _ (Ints.nil_ _ _ _ _ _) (Ints.nil_ _ _ _ _ _) (by omega) (by omega) rfl).mono ?_
    rintro e w12 ⟨rfl, b12⟩
    replace o_t := o_t.below b12
    replace o_u := o_u.below b12
    replace o_s := o_s.below b12
    replace o_s2 := o_s2.below b12
    have B12 := below_step B11 b12 B11.size
    go_wp2_with fail
    refine (mul_any _ _ _ _ _ _ _ _ _ (hr_0.below B12) (hr_1.below B12) (by omega) (by omega)).mono ?_
    rintro e w13 ⟨A_p, m_p, rfl, hm_p, o_p, b13⟩
    replace o_t := o_t.below b13
    replace o_u := o_u.below b13
    replace o_s := o_s.below b13
    replace o_s2 := o_s2.below b13
    have B13 := below_step B12 b13 B12.size
    go_wp2_with fail
    refine (rMul_any _ _ _ _ _ _ _ _ _ (hr_0.below B13) (hr_1.below B13) (by omega) (by omega)).mono ?_
    rintro e w14 ⟨A_p2, m_p2, c_p2, rfl, hm_p2, o_p2, b14⟩
    replace o_t := o_t.below b14
    replace o_u := o_u.below b14
    replace o_s := o_s.below b14
    replace o_s2 := o_s2.below b14
    replace o_p := o_p.below b14
    have B14 := below_step B13 b14 B13.size
    go_wp2_with fail
    refine (same_true _ _ _ _ _ _ _ _ _ o_p.ints o_p2.ints (by omega) (by omega) rfl).mono ?_
    rintro e w15 ⟨rfl, b15⟩
    replace o_t := o_t.below b15
    replace o_u := o_u.below b15
    replace o_s := o_s.below b15
    replace o_s2 := o_s2.below b15
    replace o_p := o_p.below b15
    replace o_p2 := o_p2.below b15
    have B15 := below_step B14 b15 B14.size
    go_wp2_with fail
    go_ret
    exact ⟨rfl, B15⟩
  · go_wp2_with fail
    refine (sub_any _ _ _ _ _ _ _ _ _ (hr_0.below B1) (hr_1.below B1) (by omega) (by omega) hv).mono ?_
    rintro e w2 ⟨A_d, m_d, rfl, hm_d, o_d, b2⟩
    have B2 := below_step B1 b2 B1.size
    go_wp2_with fail
    refine (rSub_any _ _ _ _ _ _ _ _ _ (hr_0.below B2) (hr_1.below B2) (by omega) (by omega) hv).mono ?_
    rintro e w3 ⟨A_e, m_e, c_e, rfl, hm_e, o_e, b3⟩
    replace o_d := o_d.below b3
    have B3 := below_step B2 b3 B2.size
    go_wp2_with fail
    refine (trim_any _ _ _ _ _ (hr_0.below B3) (by omega)).mono ?_
    rintro e w4 ⟨A_t, m_t, rfl, hm_t, o_t, b4⟩
    replace o_d := o_d.below b4
    replace o_e := o_e.below b4
    have B4 := below_step B3 b4 B3.size
    go_wp2_with fail
    refine (rtrim_any _ _ _ _ _ (hr_0.below B4) (by omega)).mono ?_
    rintro e w5 ⟨A_u, m_u, c_u, rfl, hm_u, o_u, b5⟩
    replace o_d := o_d.below b5
    replace o_e := o_e.below b5
    replace o_t := o_t.below b5
    have B5 := below_step B4 b5 B4.size
    go_wp2_with fail
    refine (same_true _ _ _ _ _ _ _ _ _ o_t.ints o_u.ints (by omega) (by omega) rfl).mono ?_
    rintro e w6 ⟨rfl, b6⟩
    replace o_d := o_d.below b6
    replace o_e := o_e.below b6
    replace o_t := o_t.below b6
    replace o_u := o_u.below b6
    have B6 := below_step B5 b6 B5.size
    go_wp2_with fail
    refine (cmp_any _ _ _ _ _ _ _ _ _ (hr_0.below B6) (hr_1.below B6) (by omega) (by omega)).mono ?_
    rintro e w7 ⟨rfl, b7⟩
    replace o_d := o_d.below b7
    replace o_e := o_e.below b7
    replace o_t := o_t.below b7
    replace o_u := o_u.below b7
    have B7 := below_step B6 b7 B6.size
    go_wp2_with fail
    refine (rCmp_any _ _ _ _ _ _ _ _ _ (hr_0.below B7) (hr_1.below B7) (by omega) (by omega)).mono ?_
    rintro e w8 ⟨rfl, b8⟩
    replace o_d := o_d.below b8
    replace o_e := o_e.below b8
    replace o_t := o_t.below b8
    replace o_u := o_u.below b8
    have B8 := below_step B7 b8 B7.size
    go_wp2_with fail
    refine (add_any _ _ _ _ _ _ _ _ _ (hr_0.below B8) (hr_1.below B8) (by omega) (by omega)).mono ?_
    rintro e w9 ⟨A_s, m_s, rfl, hm_s, o_s, b9⟩
    replace o_d := o_d.below b9
    replace o_e := o_e.below b9
    replace o_t := o_t.below b9
    replace o_u := o_u.below b9
    have B9 := below_step B8 b9 B8.size
    go_wp2_with fail
    refine (rAdd_any _ _ _ _ _ _ _ _ _ (hr_0.below B9) (hr_1.below B9) (by omega) (by omega)).mono ?_
    rintro e w10 ⟨A_s2, m_s2, c_s2, rfl, hm_s2, o_s2, b10⟩
    replace o_d := o_d.below b10
    replace o_e := o_e.below b10
    replace o_t := o_t.below b10
    replace o_u := o_u.below b10
    replace o_s := o_s.below b10
    have B10 := below_step B9 b10 B9.size
    go_wp2_with fail
    refine (same_true _ _ _ _ _ _ _ _ _ o_s.ints o_s2.ints (by omega) (by omega) rfl).mono ?_
    rintro e w11 ⟨rfl, b11⟩
    replace o_d := o_d.below b11
    replace o_e := o_e.below b11
    replace o_t := o_t.below b11
    replace o_u := o_u.below b11
    replace o_s := o_s.below b11
    replace o_s2 := o_s2.below b11
    have B11 := below_step B10 b11 B10.size
    go_wp2_with fail
    refine (same_true _ _ _ _ _ _ _ _ _ o_d.ints o_e.ints (by omega) (by omega) rfl).mono ?_
    rintro e w12 ⟨rfl, b12⟩
    replace o_d := o_d.below b12
    replace o_e := o_e.below b12
    replace o_t := o_t.below b12
    replace o_u := o_u.below b12
    replace o_s := o_s.below b12
    replace o_s2 := o_s2.below b12
    have B12 := below_step B11 b12 B11.size
    go_wp2_with fail
    refine (mul_any _ _ _ _ _ _ _ _ _ (hr_0.below B12) (hr_1.below B12) (by omega) (by omega)).mono ?_
    rintro e w13 ⟨A_p, m_p, rfl, hm_p, o_p, b13⟩
    replace o_d := o_d.below b13
    replace o_e := o_e.below b13
    replace o_t := o_t.below b13
    replace o_u := o_u.below b13
    replace o_s := o_s.below b13
    replace o_s2 := o_s2.below b13
    have B13 := below_step B12 b13 B12.size
    go_wp2_with fail
    refine (rMul_any _ _ _ _ _ _ _ _ _ (hr_0.below B13) (hr_1.below B13) (by omega) (by omega)).mono ?_
    rintro e w14 ⟨A_p2, m_p2, c_p2, rfl, hm_p2, o_p2, b14⟩
    replace o_d := o_d.below b14
    replace o_e := o_e.below b14
    replace o_t := o_t.below b14
    replace o_u := o_u.below b14
    replace o_s := o_s.below b14
    replace o_s2 := o_s2.below b14
    replace o_p := o_p.below b14
    have B14 := below_step B13 b14 B13.size
    go_wp2_with fail
    refine (same_true _ _ _ _ _ _ _ _ _ o_p.ints o_p2.ints (by omega) (by omega) rfl).mono ?_
    rintro e w15 ⟨rfl, b15⟩
    replace o_d := o_d.below b15
    replace o_e := o_e.below b15
    replace o_t := o_t.below b15
    replace o_u := o_u.below b15
    replace o_s := o_s.below b15
    replace o_s2 := o_s2.below b15
    replace o_p := o_p.below b15
    replace o_p2 := o_p2.below b15
    have B15 := below_step B14 b15 B14.size
    go_wp2_with fail
    go_ret
    exact ⟨rfl, B15⟩
end Go.Proofs.YticheiocmhaakaaDoor
