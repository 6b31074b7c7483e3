/- NatGcd: the greatest divisor of both divides both; of their quotients by it, it is 1. No condition. -/
import Derived.Test.YticheiocmhaakaaDoorLawNat
namespace Go.Proofs.YticheiocmhaakaaDoor
open Go.RowKit

set_option maxRecDepth 100000 in
set_option maxHeartbeats 3200000 in
theorem natGcd_any (A0 : Option Addr) (n0 c0 : Nat) (l0 : List Nat) (A1 : Option Addr) (n1 c1 : Nat) (l1 : List Nat) (w : World) (hr_0 : Lim w A0 n0 c0 l0) (hn0 : n0 ≤ maxLen) (hr_1 : Lim w A1 n1 c1 l1) (hn1 : n1 ≤ maxLen) :
    Calls Tryd.prog 9 #[.slice A0 n0 c0, .slice A1 n1 c1] w fun e w' => e = .returned (.bool true) ∧ Below w.heap.size w w' := by
  unfold maxLen at hn0 hn1
  by_cases h0 : 6 < n0
  · go_enter Tryd.func9, Tryd.ntmps9
    go_wp2_with fail
    refine (awake_any _).mono ?_; rintro e w1 ⟨rfl, b1⟩
    go_wp2_with fail
    go_ret
    exact ⟨rfl, b1⟩
  by_cases h1 : 6 < n1
  · go_enter Tryd.func9, Tryd.ntmps9
    go_wp2_with fail
    refine (awake_any _).mono ?_; rintro e w1 ⟨rfl, b1⟩
    go_wp2_with fail
    go_ret
    exact ⟨rfl, b1⟩
  go_enter Tryd.func9, Tryd.ntmps9
  have B0 := Below.refl w.heap.size w
  go_wp2_with fail
  refine (awake_any _).mono ?_
  rintro e w1 ⟨rfl, b1⟩
  have B1 := below_step B0 b1 B0.size
  go_wp2_with fail
  refine (gcd_any _ _ _ _ _ _ _ _ _ (hr_0.below B1) (hr_1.below B1) (by omega) (by omega)).mono ?_
  rintro e w2 ⟨A_g, m_g, rfl, hm_g, o_g, b2⟩
  have B2 := below_step B1 b2 B1.size
  rcases Nat.eq_zero_or_pos (Nat.gcd (vl l0) (vl l1)) with hv | hv
  · obtain rfl := lmb_len_zero o_g hv
    have ha : vl l0 = 0 := Nat.eq_zero_of_gcd_eq_zero_left hv
    have hb : vl l1 = 0 := Nat.eq_zero_of_gcd_eq_zero_right hv
    go_wp2_with fail
    refine (rtrim_any _ _ _ _ _ (hr_0.below B2) (by omega)).mono ?_
    rintro e w3 ⟨A_t, m_t, c_t, rfl, hm_t, o_t, b3⟩
    replace o_g := o_g.below b3
    have B3 := below_step B2 b3 B2.size
    obtain rfl := lmb_len_zero o_t ha
    go_wp2_with fail
    refine (rtrim_any _ _ _ _ _ (hr_1.below B3) (by omega)).mono ?_
    rintro e w4 ⟨A_u, m_u, c_u, rfl, hm_u, o_u, b4⟩
    replace o_g := o_g.below b4
    replace o_t := o_t.below b4
    have B4 := below_step B3 b4 B3.size
    obtain rfl := lmb_len_zero o_u hb
    go_wp2_with fail
    go_ret
    exact ⟨rfl, B4⟩
  · have hg := lmb_len_pos o_g hv
    have hg2 : ((m_g : Int) == 0) = false := by simp; omega
    go_wp2_with fail
    refine (div_any _ _ _ _ _ _ _ _ _ (hr_0.below B2) o_g.ints (by omega) (by omega) (by rw [vl_lmb]; exact hv)).mono ?_
    rintro e w3 ⟨A_x, m_x, A_r, m_r, rfl, o_x, o_r, hm_x, hm_r, b3⟩
    replace o_g := o_g.below b3
    have B3 := below_step B2 b3 B2.size
    go_wp2_with fail
    refine (div_any _ _ _ _ _ _ _ _ _ (hr_1.below B3) o_g.ints (by omega) (by omega) (by rw [vl_lmb]; exact hv)).mono ?_
    rintro e w4 ⟨A_y, m_y, A_s, m_s, rfl, o_y, o_s, hm_y, hm_s, b4⟩
    replace o_g := o_g.below b4
    replace o_x := o_x.below b4
    replace o_r := o_r.below b4
    have B4 := below_step B3 b4 B3.size
    obtain rfl := lmb_len_zero o_r (by rw [vl_lmb]; exact Nat.mod_eq_zero_of_dvd (Nat.gcd_dvd_left _ _))
    obtain rfl := lmb_len_zero o_s (by rw [vl_lmb]; exact Nat.mod_eq_zero_of_dvd (Nat.gcd_dvd_right _ _))
    go_wp2_with fail
    refine (gcd_any _ _ _ _ _ _ _ _ _ o_x.ints o_y.ints (by omega) (by omega)).mono ?_
    rintro e w5 ⟨A_h, m_h, rfl, hm_h, o_h, b5⟩
    replace o_g := o_g.below b5
    replace o_x := o_x.below b5
    replace o_r := o_r.below b5
    replace o_y := o_y.below b5
    replace o_s := o_s.below b5
    have B5 := below_step B4 b5 B4.size
    go_wp2_with fail
    refine (same_true _ _ _ _ _ _ _ [1] _ (o_h.alloc _).ints (Ints.lit (w := _) .u32 4294967296 33 (fr := (0, 0)) (n := 1) [1] (by simp) rfl rfl (by decide)) (by omega) (by omega) (by rw [vl_lmb, vl_lmb, vl_lmb, Nat.gcd_div (Nat.gcd_dvd_left _ _) (Nat.gcd_dvd_right _ _), Nat.div_self hv]; exact lmb_lit [1] (by decide) (by decide))).mono ?_
    rintro e w6 ⟨rfl, b6⟩
    replace o_g := (o_g.alloc _).below b6
    replace o_x := (o_x.alloc _).below b6
    replace o_r := (o_r.alloc _).below b6
    replace o_y := (o_y.alloc _).below b6
    replace o_s := (o_s.alloc _).below b6
    replace o_h := (o_h.alloc _).below b6
    have B6 := below_step (B5.alloc B5.size _) b6 (B5.alloc B5.size _).size
    go_wp2_with fail
    refine (gcd_any _ _ _ _ _ _ _ _ _ (hr_1.below B6) (hr_0.below B6) (by omega) (by omega)).mono ?_
    rintro e w7 ⟨A_k, m_k, rfl, hm_k, o_k, b7⟩
    replace o_g := o_g.below b7
    replace o_x := o_x.below b7
    replace o_r := o_r.below b7
    replace o_y := o_y.below b7
    replace o_s := o_s.below b7
    replace o_h := o_h.below b7
    have B7 := below_step B6 b7 B6.size
    go_wp2_with fail
    refine (same_true _ _ _ _ _ _ _ _ _ o_k.ints o_g.ints (by omega) (by omega) (by rw [Nat.gcd_comm])).mono ?_
    rintro e w8 ⟨rfl, b8⟩
    replace o_g := o_g.below b8
    replace o_x := o_x.below b8
    replace o_r := o_r.below b8
    replace o_y := o_y.below b8
    replace o_s := o_s.below b8
    replace o_h := o_h.below b8
    replace o_k := o_k.below b8
    have B8 := below_step B7 b8 B7.size
    go_wp2_with fail
    go_ret
    exact ⟨rfl, B8⟩
end Go.Proofs.YticheiocmhaakaaDoor
