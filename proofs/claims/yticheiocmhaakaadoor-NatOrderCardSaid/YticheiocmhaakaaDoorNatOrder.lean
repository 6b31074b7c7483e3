/- NatOrder: of two numbers the greater one less the other is there, and the other way round only if they are alike; what is added makes none less. No condition. -/
import Derived.Test.YticheiocmhaakaaDoorNatN
namespace Go.Proofs.YticheiocmhaakaaDoor
open Go.RowKit

theorem cmp_is (A A' : Option Addr) (n c n' c' : Nat) (l l' : List Nat) (w : World) (hr : Lim w A n c l) (hr' : Lim w A' n' c' l') (hn : n ≤ 1099511627776) (hn' : n' ≤ 1099511627776) (z : Int) (hz : Num.cmp (vl l) (vl l') = z) :
    Calls Tryd.prog 18 #[.slice A n c, .slice A' n' c'] w fun e w' => e = .returned (.int .i64 z) ∧ Below w.heap.size w w' := by
  subst hz
  exact cmp_any A A' n c n' c' l l' w hr hr' hn hn'
theorem cmp_ge (A A' : Option Addr) (n c n' c' : Nat) (l l' : List Nat) (w : World) (hr : Lim w A n c l) (hr' : Lim w A' n' c' l') (hn : n ≤ 1099511627776) (hn' : n' ≤ 1099511627776) (hz : vl l' ≤ vl l) :
    Calls Tryd.prog 18 #[.slice A n c, .slice A' n' c'] w fun e w' => ∃ z : Int, 0 ≤ z ∧ e = .returned (.int .i64 z) ∧ Below w.heap.size w w' := by
  refine (cmp_any A A' n c n' c' l l' w hr hr' hn hn').mono fun e w' ⟨h1, h2⟩ => ⟨_, ?_, h1, h2⟩
  rcases Nat.lt_or_eq_of_le hz with h | h
  · rw [Num.cmp_gt h]; decide
  · rw [h, Num.cmp_eq]; decide
theorem same_not (A B : Option Addr) (n c m d : Nat) (l k : List Nat) (w : World) (ha : Lim w A n c l) (hb : Lim w B m d k) (hn : n ≤ 140737488355328) (hm : m ≤ 140737488355328) (he : l ≠ k) :
    Calls Tryd.prog 15 #[.slice A n c, .slice B m d] w fun e w' => e = .returned (.bool false) ∧ Below w.heap.size w w' :=
  (same_below A B n c m d l k w ha hb hn hm).mono fun e w' ⟨h1, h2⟩ => ⟨by rw [h1, decide_eq_false he], h2⟩

set_option maxRecDepth 100000 in
set_option maxHeartbeats 3200000 in
theorem natOrder_any (A0 : Option Addr) (n0 c0 : Nat) (l0 : List Nat) (A1 : Option Addr) (n1 c1 : Nat) (l1 : List Nat) (w : World) (hr_0 : Lim w A0 n0 c0 l0) (hn0 : n0 ≤ maxLen) (hr_1 : Lim w A1 n1 c1 l1) (hn1 : n1 ≤ maxLen) :
    Calls Tryd.prog 7 #[.slice A0 n0 c0, .slice A1 n1 c1] w fun e w' => e = .returned (.bool true) ∧ Below w.heap.size w w' := by
  unfold maxLen at hn0 hn1
  by_cases h0 : 14 < n0
  · go_enter Tryd.func7, Tryd.ntmps7
    go_wp2_with fail
    refine (awake_any _).mono ?_; rintro e w1 ⟨rfl, b1⟩
    go_wp2_with fail
    go_ret
    exact ⟨rfl, b1⟩
  by_cases h1 : 14 < n1
  · go_enter Tryd.func7, Tryd.ntmps7
    go_wp2_with fail
    refine (awake_any _).mono ?_; rintro e w1 ⟨rfl, b1⟩
    go_wp2_with fail
    go_ret
    exact ⟨rfl, b1⟩
  go_enter Tryd.func7, Tryd.ntmps7
  have B0 := Below.refl w.heap.size w
  go_wp2_with fail
  refine (awake_any _).mono ?_
  rintro e w1 ⟨rfl, b1⟩
  have B1 := below_step B0 b1 B0.size
  rcases Nat.lt_trichotomy (vl l0) (vl l1) with hv | hv | hv
  · go_wp2_with fail
    refine (cmp_is _ _ _ _ _ _ _ _ _ (hr_0.below B1) (hr_1.below B1) (by omega) (by omega) (-1) (Num.cmp_lt hv)).mono ?_
    rintro e w2 ⟨rfl, b2⟩
    have B2 := below_step B1 b2 B1.size
    go_wp2_with fail
    refine (sub_less _ _ _ _ _ _ _ _ _ (hr_0.below B2) (hr_1.below B2) (by omega) (by omega) hv).mono ?_
    rintro e w3 ⟨rfl, b3⟩
    have B3 := below_step B2 b3 B2.size
    go_wp2_with fail
    refine (sub_any _ _ _ _ _ _ _ _ _ (hr_1.below B3) (hr_0.below B3) (by omega) (by omega) (by omega)).mono ?_
    rintro e w4 ⟨A_d2, m_d2, rfl, hm_d2, o_d2, b4⟩
    have B4 := below_step B3 b4 B3.size
    go_wp2_with fail
    refine (add_any _ _ _ _ _ _ _ _ _ (hr_0.below B4) (hr_1.below B4) (by omega) (by omega)).mono ?_
    rintro e w5 ⟨A_s, m_s, rfl, hm_s, o_s, b5⟩
    replace o_d2 := o_d2.below b5
    have B5 := below_step B4 b5 B4.size
    go_wp2_with fail
    refine (cmp_is _ _ _ _ _ _ _ _ _ (hr_1.below B5) (hr_0.below B5) (by omega) (by omega) 1 (Num.cmp_gt hv)).mono ?_
    rintro e w6 ⟨rfl, b6⟩
    replace o_d2 := o_d2.below b6
    replace o_s := o_s.below b6
    have B6 := below_step B5 b6 B5.size
    go_wp2_with fail
    refine (cmp_ge _ _ _ _ _ _ _ _ _ o_s.ints (hr_0.below B6) (by omega) (by omega) (by rw [vl_lmb]; omega)).mono ?_
    rintro e w7 ⟨z1, hz1, rfl, b7⟩
    replace o_d2 := o_d2.below b7
    replace o_s := o_s.below b7
    have B7 := below_step B6 b7 B6.size
    go_wp2_with fail
    refine (cmp_ge _ _ _ _ _ _ _ _ _ o_s.ints (hr_1.below B7) (by omega) (by omega) (by rw [vl_lmb]; omega)).mono ?_
    rintro e w8 ⟨z2, hz2, rfl, b8⟩
    replace o_d2 := o_d2.below b8
    replace o_s := o_s.below b8
    have B8 := below_step B7 b8 B7.size
    go_wp2_with fail
    refine (trim_any _ _ _ _ _ (hr_0.below B8) (by omega)).mono ?_
    rintro e w9 ⟨A_t, m_t, rfl, hm_t, o_t, b9⟩
    replace o_d2 := o_d2.below b9
    replace o_s := o_s.below b9
    have B9 := below_step B8 b9 B8.size
    go_wp2_with fail
    refine (trim_any _ _ _ _ _ (hr_1.below B9) (by omega)).mono ?_
    rintro e w10 ⟨A_u, m_u, rfl, hm_u, o_u, b10⟩
    replace o_d2 := o_d2.below b10
    replace o_s := o_s.below b10
    replace o_t := o_t.below b10
    have B10 := below_step B9 b10 B9.size
    go_wp2_with fail
    refine (same_not _ _ _ _ _ _ _ _ _ o_t.ints o_u.ints (by omega) (by omega) (fun e => by have := lmb_inj e; omega)).mono ?_
    rintro e w11 ⟨rfl, b11⟩
    replace o_d2 := o_d2.below b11
    replace o_s := o_s.below b11
    replace o_t := o_t.below b11
    replace o_u := o_u.below b11
    have B11 := below_step B10 b11 B10.size
    go_wp2_with fail
    go_ret
    exact ⟨rfl, B11⟩
  · go_wp2_with fail
    refine (cmp_is _ _ _ _ _ _ _ _ _ (hr_0.below B1) (hr_1.below B1) (by omega) (by omega) 0 (by rw [hv]; exact Num.cmp_eq _)).mono ?_
    rintro e w2 ⟨rfl, b2⟩
    have B2 := below_step B1 b2 B1.size
    go_wp2_with fail
    refine (sub_any _ _ _ _ _ _ _ _ _ (hr_0.below B2) (hr_1.below B2) (by omega) (by omega) (by omega)).mono ?_
    rintro e w3 ⟨A_d, m_d, rfl, hm_d, o_d, b3⟩
    have B3 := below_step B2 b3 B2.size
    go_wp2_with fail
    refine (sub_any _ _ _ _ _ _ _ _ _ (hr_1.below B3) (hr_0.below B3) (by omega) (by omega) (by omega)).mono ?_
    rintro e w4 ⟨A_d2, m_d2, rfl, hm_d2, o_d2, b4⟩
    replace o_d := o_d.below b4
    have B4 := below_step B3 b4 B3.size
    go_wp2_with fail
    refine (add_any _ _ _ _ _ _ _ _ _ (hr_0.below B4) (hr_1.below B4) (by omega) (by omega)).mono ?_
    rintro e w5 ⟨A_s, m_s, rfl, hm_s, o_s, b5⟩
    replace o_d := o_d.below b5
    replace o_d2 := o_d2.below b5
    have B5 := below_step B4 b5 B4.size
    go_wp2_with fail
    refine (cmp_is _ _ _ _ _ _ _ _ _ (hr_1.below B5) (hr_0.below B5) (by omega) (by omega) 0 (by rw [hv]; exact Num.cmp_eq _)).mono ?_
    rintro e w6 ⟨rfl, b6⟩
    replace o_d := o_d.below b6
    replace o_d2 := o_d2.below b6
    replace o_s := o_s.below b6
    have B6 := below_step B5 b6 B5.size
    go_wp2_with fail
    refine (cmp_ge _ _ _ _ _ _ _ _ _ o_s.ints (hr_0.below B6) (by omega) (by omega) (by rw [vl_lmb]; omega)).mono ?_
    rintro e w7 ⟨z1, hz1, rfl, b7⟩
    replace o_d := o_d.below b7
    replace o_d2 := o_d2.below b7
    replace o_s := o_s.below b7
    have B7 := below_step B6 b7 B6.size
    go_wp2_with fail
    refine (cmp_ge _ _ _ _ _ _ _ _ _ o_s.ints (hr_1.below B7) (by omega) (by omega) (by rw [vl_lmb]; omega)).mono ?_
    rintro e w8 ⟨z2, hz2, rfl, b8⟩
    replace o_d := o_d.below b8
    replace o_d2 := o_d2.below b8
    replace o_s := o_s.below b8
    have B8 := below_step B7 b8 B7.size
    go_wp2_with fail
    refine (trim_any _ _ _ _ _ (hr_0.below B8) (by omega)).mono ?_
    rintro e w9 ⟨A_t, m_t, rfl, hm_t, o_t, b9⟩
    replace o_d := o_d.below b9
    replace o_d2 := o_d2.below b9
    replace o_s := o_s.below b9
    have B9 := below_step B8 b9 B8.size
    go_wp2_with fail
    refine (trim_any _ _ _ _ _ (hr_1.below B9) (by omega)).mono ?_
    rintro e w10 ⟨A_u, m_u, rfl, hm_u, o_u, b10⟩
    replace o_d := o_d.below b10
    replace o_d2 := o_d2.below b10
    replace o_s := o_s.below b10
    replace o_t := o_t.below b10
    have B10 := below_step B9 b10 B9.size
    go_wp2_with fail
    refine (same_true _ _ _ _ _ _ _ _ _ o_t.ints o_u.ints (by omega) (by omega) (by rw [hv])).mono ?_
    rintro e w11 ⟨rfl, b11⟩
    replace o_d := o_d.below b11
    replace o_d2 := o_d2.below b11
    replace o_s := o_s.below b11
    replace o_t := o_t.below b11
    replace o_u := o_u.below b11
    have B11 := below_step B10 b11 B10.size
    go_wp2_with fail
    go_ret
    exact ⟨rfl, B11⟩
  · go_wp2_with fail
    refine (cmp_is _ _ _ _ _ _ _ _ _ (hr_0.below B1) (hr_1.below B1) (by omega) (by omega) 1 (Num.cmp_gt hv)).mono ?_
    rintro e w2 ⟨rfl, b2⟩
    have B2 := below_step B1 b2 B1.size
    go_wp2_with fail
    refine (sub_any _ _ _ _ _ _ _ _ _ (hr_0.below B2) (hr_1.below B2) (by omega) (by omega) (by omega)).mono ?_
    rintro e w3 ⟨A_d, m_d, rfl, hm_d, o_d, b3⟩
    have B3 := below_step B2 b3 B2.size
    go_wp2_with fail
    refine (sub_less _ _ _ _ _ _ _ _ _ (hr_1.below B3) (hr_0.below B3) (by omega) (by omega) hv).mono ?_
    rintro e w4 ⟨rfl, b4⟩
    replace o_d := o_d.below b4
    have B4 := below_step B3 b4 B3.size
    go_wp2_with fail
    refine (add_any _ _ _ _ _ _ _ _ _ (hr_0.below B4) (hr_1.below B4) (by omega) (by omega)).mono ?_
    rintro e w5 ⟨A_s, m_s, rfl, hm_s, o_s, b5⟩
    replace o_d := o_d.below b5
    have B5 := below_step B4 b5 B4.size
    go_wp2_with fail
    refine (cmp_is _ _ _ _ _ _ _ _ _ (hr_1.below B5) (hr_0.below B5) (by omega) (by omega) (-1) (Num.cmp_lt hv)).mono ?_
    rintro e w6 ⟨rfl, b6⟩
    replace o_d := o_d.below b6
    replace o_s := o_s.below b6
    have B6 := below_step B5 b6 B5.size
    go_wp2_with fail
    refine (cmp_ge _ _ _ _ _ _ _ _ _ o_s.ints (hr_0.below B6) (by omega) (by omega) (by rw [vl_lmb]; omega)).mono ?_
    rintro e w7 ⟨z1, hz1, rfl, b7⟩
    replace o_d := o_d.below b7
    replace o_s := o_s.below b7
    have B7 := below_step B6 b7 B6.size
    go_wp2_with fail
    refine (cmp_ge _ _ _ _ _ _ _ _ _ o_s.ints (hr_1.below B7) (by omega) (by omega) (by rw [vl_lmb]; omega)).mono ?_
    rintro e w8 ⟨z2, hz2, rfl, b8⟩
    replace o_d := o_d.below b8
    replace o_s := o_s.below b8
    have B8 := below_step B7 b8 B7.size
    go_wp2_with fail
    refine (trim_any _ _ _ _ _ (hr_0.below B8) (by omega)).mono ?_
    rintro e w9 ⟨A_t, m_t, rfl, hm_t, o_t, b9⟩
    replace o_d := o_d.below b9
    replace o_s := o_s.below b9
    have B9 := below_step B8 b9 B8.size
    go_wp2_with fail
    refine (trim_any _ _ _ _ _ (hr_1.below B9) (by omega)).mono ?_
    rintro e w10 ⟨A_u, m_u, rfl, hm_u, o_u, b10⟩
    replace o_d := o_d.below b10
    replace o_s := o_s.below b10
    replace o_t := o_t.below b10
    have B10 := below_step B9 b10 B9.size
    go_wp2_with fail
    refine (same_not _ _ _ _ _ _ _ _ _ o_t.ints o_u.ints (by omega) (by omega) (fun e => by have := lmb_inj e; omega)).mono ?_
    rintro e w11 ⟨rfl, b11⟩
    replace o_d := o_d.below b11
    replace o_s := o_s.below b11
    replace o_t := o_t.below b11
    replace o_u := o_u.below b11
    have B11 := below_step B10 b11 B10.size
    go_wp2_with fail
    go_ret
    exact ⟨rfl, B11⟩
end Go.Proofs.YticheiocmhaakaaDoor
