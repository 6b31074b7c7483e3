/- The contracts of heijunkaref01.Trim, Cmp, Add, Sub, Mul, Div, Gcd. No condition. -/
import Derived.Test.YticheiocmhaakaaDoorRefD
namespace Go.Proofs.YticheiocmhaakaaDoor
open Go.RowKit

set_option maxRecDepth 100000 in
set_option maxHeartbeats 800000 in
theorem rtrim_any (A0 : Option Addr) (n0 c0 : Nat) (l0 : List Nat) (w : World) (hr_0 : Lim w A0 n0 c0 l0) (hn0 : n0 ≤ 268435456) :
    Calls Tryd.prog 17 #[.slice A0 n0 c0] w fun e w' => ∃ A2 m c2, e = .returned (.slice A2 m c2) ∧ m ≤ 4 * n0 ∧ OwnL w' w.heap.size A2 m c2 (lmb (vl l0)) ∧ Below w.heap.size w w' := by
  go_enter Tryd.func17, Tryd.ntmps17
  have B0 := Below.refl w.heap.size w
  go_wp2_with fail
  refine (digits_any _ _ _ _ _ (hr_0.below B0) (by omega)).mono ?_
  rintro e w1 ⟨A_d, m_d, c_d, rfl, hm_d, o_d, b1⟩
  have B1 := below_step B0 b1 B0.size
  go_wp2_with fail
  refine (limbs_any _ _ _ _ _ o_d.ints (by omega)).mono ?_
  rintro e w2 ⟨A_x, m_x, c_x, rfl, hm_x, o_x, b2⟩
  replace o_d := o_d.below b2
  have B2 := below_step B1 b2 B1.size
  go_wp2_with fail
  go_ret
  rw [dv_dg] at o_x
  exact ⟨_, _, _, rfl, by omega, o_x.mono B1.size, B2⟩
set_option maxRecDepth 100000 in
set_option maxHeartbeats 800000 in
theorem rCmp_any (A0 : Option Addr) (n0 c0 : Nat) (l0 : List Nat) (A1 : Option Addr) (n1 c1 : Nat) (l1 : List Nat) (w : World) (hr_0 : Lim w A0 n0 c0 l0) (hr_1 : Lim w A1 n1 c1 l1) (hn0 : n0 ≤ 268435456) (hn1 : n1 ≤ 268435456) :
    Calls Tryd.prog 19 #[.slice A0 n0 c0, .slice A1 n1 c1] w fun e w' => e = .returned (.int .i64 (Num.cmp (vl l0) (vl l1))) ∧ Below w.heap.size w w' := by
  go_enter Tryd.func19, Tryd.ntmps19
  have B0 := Below.refl w.heap.size w
  go_wp2_with fail
  refine (digits_any _ _ _ _ _ (hr_0.below B0) (by omega)).mono ?_
  rintro e w1 ⟨A_d, m_d, c_d, rfl, hm_d, o_d, b1⟩
  have B1 := below_step B0 b1 B0.size
  go_wp2_with fail
  refine (digits_any _ _ _ _ _ (hr_1.below B1) (by omega)).mono ?_
  rintro e w2 ⟨A_f, m_f, c_f, rfl, hm_f, o_f, b2⟩
  replace o_d := o_d.below b2
  have B2 := below_step B1 b2 B1.size
  go_wp2_with fail
  refine (rcmp_any _ _ _ _ _ _ _ _ _ o_d.ints o_f.ints (by omega) (by omega)).mono ?_
  rintro e w3 ⟨rfl, rfl⟩
  go_wp2_with fail
  go_ret
  exact ⟨by rw [dv_dg, dv_dg]; rfl, B2⟩
set_option maxRecDepth 100000 in
set_option maxHeartbeats 800000 in
theorem rAdd_any (A0 : Option Addr) (n0 c0 : Nat) (l0 : List Nat) (A1 : Option Addr) (n1 c1 : Nat) (l1 : List Nat) (w : World) (hr_0 : Lim w A0 n0 c0 l0) (hr_1 : Lim w A1 n1 c1 l1) (hn0 : n0 ≤ 268435456) (hn1 : n1 ≤ 268435456) :
    Calls Tryd.prog 21 #[.slice A0 n0 c0, .slice A1 n1 c1] w fun e w' => ∃ A2 m c2, e = .returned (.slice A2 m c2) ∧ m ≤ 4 * n0 + 4 * n1 + 1 ∧ OwnL w' w.heap.size A2 m c2 (lmb (vl l0 + vl l1)) ∧ Below w.heap.size w w' := by
  go_enter Tryd.func21, Tryd.ntmps21
  have B0 := Below.refl w.heap.size w
  go_wp2_with fail
  refine (digits_any _ _ _ _ _ (hr_0.below B0) (by omega)).mono ?_
  rintro e w1 ⟨A_d, m_d, c_d, rfl, hm_d, o_d, b1⟩
  have B1 := below_step B0 b1 B0.size
  go_wp2_with fail
  refine (digits_any _ _ _ _ _ (hr_1.below B1) (by omega)).mono ?_
  rintro e w2 ⟨A_f, m_f, c_f, rfl, hm_f, o_f, b2⟩
  replace o_d := o_d.below b2
  have B2 := below_step B1 b2 B1.size
  go_wp2_with fail
  refine (radd_any _ _ _ _ _ _ _ _ _ o_d.ints o_f.ints (by omega) (by omega)).mono ?_
  rintro e w3 ⟨A_s, m_s, c_s, rfl, hm_s, o_s, b3⟩
  replace o_d := o_d.below b3
  replace o_f := o_f.below b3
  have B3 := below_step B2 b3 B2.size
  go_wp2_with fail
  refine (limbs_any _ _ _ _ _ o_s.ints (by omega)).mono ?_
  rintro e w4 ⟨A_x, m_x, c_x, rfl, hm_x, o_x, b4⟩
  replace o_d := o_d.below b4
  replace o_f := o_f.below b4
  replace o_s := o_s.below b4
  have B4 := below_step B3 b4 B3.size
  go_wp2_with fail
  go_ret
  rw [dv_dg, dv_dg, dv_dg] at o_x
  exact ⟨_, _, _, rfl, by omega, o_x.mono B3.size, B4⟩
set_option maxRecDepth 100000 in
set_option maxHeartbeats 800000 in
theorem rMul_any (A0 : Option Addr) (n0 c0 : Nat) (l0 : List Nat) (A1 : Option Addr) (n1 c1 : Nat) (l1 : List Nat) (w : World) (hr_0 : Lim w A0 n0 c0 l0) (hr_1 : Lim w A1 n1 c1 l1) (hn0 : n0 ≤ 268435456) (hn1 : n1 ≤ 268435456) :
    Calls Tryd.prog 23 #[.slice A0 n0 c0, .slice A1 n1 c1] w fun e w' => ∃ A2 m c2, e = .returned (.slice A2 m c2) ∧ m ≤ 4 * n0 + 4 * n1 + 1 ∧ OwnL w' w.heap.size A2 m c2 (lmb (vl l0 * vl l1)) ∧ Below w.heap.size w w' := by
  go_enter Tryd.func23, Tryd.ntmps23
  have B0 := Below.refl w.heap.size w
  go_wp2_with fail
  refine (digits_any _ _ _ _ _ (hr_0.below B0) (by omega)).mono ?_
  rintro e w1 ⟨A_d, m_d, c_d, rfl, hm_d, o_d, b1⟩
  have B1 := below_step B0 b1 B0.size
  go_wp2_with fail
  refine (digits_any _ _ _ _ _ (hr_1.below B1) (by omega)).mono ?_
  rintro e w2 ⟨A_f, m_f, c_f, rfl, hm_f, o_f, b2⟩
  replace o_d := o_d.below b2
  have B2 := below_step B1 b2 B1.size
  go_wp2_with fail
  refine (rmul_any _ _ _ _ _ _ _ _ _ o_d.ints o_f.ints (by omega) (by omega)).mono ?_
  rintro e w3 ⟨A_s, m_s, c_s, rfl, hm_s, o_s, b3⟩
  replace o_d := o_d.below b3
  replace o_f := o_f.below b3
  have B3 := below_step B2 b3 B2.size
  go_wp2_with fail
  refine (limbs_any _ _ _ _ _ o_s.ints (by omega)).mono ?_
  rintro e w4 ⟨A_x, m_x, c_x, rfl, hm_x, o_x, b4⟩
  replace o_d := o_d.below b4
  replace o_f := o_f.below b4
  replace o_s := o_s.below b4
  have B4 := below_step B3 b4 B3.size
  go_wp2_with fail
  go_ret
  rw [dv_dg, dv_dg, dv_dg] at o_x
  exact ⟨_, _, _, rfl, by omega, o_x.mono B3.size, B4⟩
set_option maxRecDepth 100000 in
set_option maxHeartbeats 800000 in
theorem rSub_any (A0 : Option Addr) (n0 c0 : Nat) (l0 : List Nat) (A1 : Option Addr) (n1 c1 : Nat) (l1 : List Nat) (w : World) (hr_0 : Lim w A0 n0 c0 l0) (hr_1 : Lim w A1 n1 c1 l1) (hn0 : n0 ≤ 268435456) (hn1 : n1 ≤ 268435456) (hle : vl l1 ≤ vl l0) :
    Calls Tryd.prog 14 #[.slice A0 n0 c0, .slice A1 n1 c1] w fun e w' => ∃ A2 m c2, e = .returned (.tuple #[.slice A2 m c2, .bool true]) ∧ m ≤ 4 * n0 ∧ OwnL w' w.heap.size A2 m c2 (lmb (vl l0 - vl l1)) ∧ Below w.heap.size w w' := by
  go_enter Tryd.func14, Tryd.ntmps14
  have B0 := Below.refl w.heap.size w
  go_wp2_with fail
  refine (rCmp_any _ _ _ _ _ _ _ _ _ (hr_0.below B0) (hr_1.below B0) (by omega) (by omega)).mono ?_
  rintro e w1 ⟨rfl, b1⟩
  have B1 := below_step B0 b1 B0.size
  have hz : 0 ≤ Num.cmp (vl l0) (vl l1) := by
    rcases Nat.lt_or_eq_of_le hle with h | h
    · rw [Num.cmp_gt h]; decide
    · rw [h, Num.cmp_eq]; decide
  obtain ⟨z, hze⟩ : ∃ z, Num.cmp (vl l0) (vl l1) = z := ⟨_, rfl⟩
  rw [hze] at hz ⊢
  have hz2 : ¬ z < 0 := by omega
  clear hze
  go_wp2_with fail
  refine (digits_any _ _ _ _ _ (hr_0.below B1) (by omega)).mono ?_
  rintro e w2 ⟨A_d, m_d, c_d, rfl, hm_d, o_d, b2⟩
  have B2 := below_step B1 b2 B1.size
  go_wp2_with fail
  refine (digits_any _ _ _ _ _ (hr_1.below B2) (by omega)).mono ?_
  rintro e w3 ⟨A_f, m_f, c_f, rfl, hm_f, o_f, b3⟩
  replace o_d := o_d.below b3
  have B3 := below_step B2 b3 B2.size
  go_wp2_with fail
  refine (rsub_any _ _ _ _ _ _ _ _ _ o_d.ints o_f.ints (by omega) (by omega) (by rw [dv_dg, dv_dg]; exact hle)).mono ?_
  rintro e w4 ⟨A_s, m_s, c_s, rfl, hm_s, o_s, b4⟩
  replace o_d := o_d.below b4
  replace o_f := o_f.below b4
  have B4 := below_step B3 b4 B3.size
  go_wp2_with fail
  refine (limbs_any _ _ _ _ _ o_s.ints (by omega)).mono ?_
  rintro e w5 ⟨A_x, m_x, c_x, rfl, hm_x, o_x, b5⟩
  replace o_d := o_d.below b5
  replace o_f := o_f.below b5
  replace o_s := o_s.below b5
  have B5 := below_step B4 b5 B4.size
  go_wp2_with fail
  go_ret2
  rw [dv_dg, dv_dg, dv_dg] at o_x
  exact ⟨_, _, _, rfl, by omega, o_x.mono B4.size, B5⟩
set_option maxRecDepth 100000 in
set_option maxHeartbeats 800000 in
theorem rSub_less (A0 : Option Addr) (n0 c0 : Nat) (l0 : List Nat) (A1 : Option Addr) (n1 c1 : Nat) (l1 : List Nat) (w : World) (hr_0 : Lim w A0 n0 c0 l0) (hr_1 : Lim w A1 n1 c1 l1) (hn0 : n0 ≤ 268435456) (hn1 : n1 ≤ 268435456) (hlt : vl l0 < vl l1) :
    Calls Tryd.prog 14 #[.slice A0 n0 c0, .slice A1 n1 c1] w fun e w' => e = .returned (.tuple #[.slice none 0 0, .bool false]) ∧ Below w.heap.size w w' := by
  go_enter Tryd.func14, Tryd.ntmps14
  have B0 := Below.refl w.heap.size w
  go_wp2_with fail
  refine (rCmp_any _ _ _ _ _ _ _ _ _ (hr_0.below B0) (hr_1.below B0) (by omega) (by omega)).mono ?_
  rintro e w1 ⟨rfl, b1⟩
  have B1 := below_step B0 b1 B0.size
  rw [Num.cmp_lt hlt]
  go_wp2_with fail
  go_ret2
  exact ⟨rfl, B1⟩
set_option maxRecDepth 100000 in
set_option maxHeartbeats 800000 in
theorem rDiv_zero (A0 : Option Addr) (n0 c0 : Nat) (l0 : List Nat) (A1 : Option Addr) (n1 c1 : Nat) (l1 : List Nat) (w : World) (_hr_0 : Lim w A0 n0 c0 l0) (hr_1 : Lim w A1 n1 c1 l1) (_hn0 : n0 ≤ 268435456) (hn1 : n1 ≤ 268435456) (h0 : vl l1 = 0) :
    Calls Tryd.prog 27 #[.slice A0 n0 c0, .slice A1 n1 c1] w fun e w' => e = .returned (.tuple #[.slice none 0 0, .slice none 0 0, .bool false]) ∧ Below w.heap.size w w' := by
  go_enter Tryd.func27, Tryd.ntmps27
  have B0 := Below.refl w.heap.size w
  go_wp2_with fail
  refine (digits_any _ _ _ _ _ (hr_1.below B0) (by omega)).mono ?_
  rintro e w1 ⟨A_f, m_f, c_f, rfl, hm_f, o_f, b1⟩
  have B1 := below_step B0 b1 B0.size
  have h1 := o_f.len
  rw [h0, dg_zero] at h1
  obtain rfl : 0 = m_f := h1
  go_wp2_with fail
  go_ret3
  exact ⟨rfl, B1⟩
set_option maxRecDepth 100000 in
set_option maxHeartbeats 1600000 in
theorem rDiv_any (A0 : Option Addr) (n0 c0 : Nat) (l0 : List Nat) (A1 : Option Addr) (n1 c1 : Nat) (l1 : List Nat) (w : World) (hr_0 : Lim w A0 n0 c0 l0) (hr_1 : Lim w A1 n1 c1 l1) (hn0 : n0 ≤ 268435456) (hn1 : n1 ≤ 268435456) (h0 : 0 < vl l1) :
    Calls Tryd.prog 27 #[.slice A0 n0 c0, .slice A1 n1 c1] w fun e w' => ∃ A2 m c2 A3 m3 c3, e = .returned (.tuple #[.slice A2 m c2, .slice A3 m3 c3, .bool true]) ∧ m ≤ 4 * n0 ∧ m3 ≤ 4 * n1 ∧ OwnL w' w.heap.size A2 m c2 (lmb (vl l0 / vl l1)) ∧ OwnL w' w.heap.size A3 m3 c3 (lmb (vl l0 % vl l1)) ∧ Below w.heap.size w w' := by
  go_enter Tryd.func27, Tryd.ntmps27
  have B0 := Below.refl w.heap.size w
  go_wp2_with fail
  refine (digits_any _ _ _ _ _ (hr_1.below B0) (by omega)).mono ?_
  rintro e w1 ⟨A_f, m_f, c_f, rfl, hm_f, o_f, b1⟩
  have B1 := below_step B0 b1 B0.size
  have hp : 0 < m_f := by
    rcases Nat.eq_zero_or_pos m_f with h | h
    · have h1 := o_f.len
      rw [h] at h1
      have := (Num.dig_eq_nil (b := 256) (by decide) (vl l1)).1 (List.eq_nil_of_length_eq_zero h1)
      omega
    · exact h
  go_wp2_with fail
  refine (digits_any _ _ _ _ _ (hr_0.below B1) (by omega)).mono ?_
  rintro e w2 ⟨A_d, m_d, c_d, rfl, hm_d, o_d, b2⟩
  replace o_f := o_f.below b2
  have B2 := below_step B1 b2 B1.size
  go_wp2_with fail
  refine (digits_any _ _ _ _ _ (hr_1.below B2) (by omega)).mono ?_
  rintro e w3 ⟨A_f2, m_f2, c_f2, rfl, hm_f2, o_f2, b3⟩
  replace o_f := o_f.below b3
  replace o_d := o_d.below b3
  have B3 := below_step B2 b3 B2.size
  go_wp2_with fail
  refine (rdiv_any _ _ _ _ _ _ _ _ _ o_d.ints o_f2.ints (by omega) (by omega) (by rw [dv_dg]; exact h0)).mono ?_
  rintro e w4 ⟨A_q, m_q, c_q, A_r, m_r, c_r, rfl, hm_q, hm_r, o_q, o_r, b4⟩
  replace o_f := o_f.below b4
  replace o_d := o_d.below b4
  replace o_f2 := o_f2.below b4
  have B4 := below_step B3 b4 B3.size
  go_wp2_with fail
  refine (limbs_any _ _ _ _ _ o_q.ints (by omega)).mono ?_
  rintro e w5 ⟨A_x, m_x, c_x, rfl, hm_x, o_x, b5⟩
  replace o_f := o_f.below b5
  replace o_d := o_d.below b5
  replace o_f2 := o_f2.below b5
  replace o_q := o_q.below b5
  replace o_r := o_r.below b5
  have B5 := below_step B4 b5 B4.size
  go_wp2_with fail
  refine (limbs_any _ _ _ _ _ o_r.ints (by omega)).mono ?_
  rintro e w6 ⟨A_y, m_y, c_y, rfl, hm_y, o_y, b6⟩
  replace o_f := o_f.below b6
  replace o_d := o_d.below b6
  replace o_f2 := o_f2.below b6
  replace o_q := o_q.below b6
  replace o_r := o_r.below b6
  replace o_x := o_x.below b6
  have B6 := below_step B5 b6 B5.size
  go_wp2_with fail
  go_ret3
  rw [dv_dg, dv_dg, dv_dg] at o_x o_y
  exact ⟨_, _, _, _, _, _, rfl, by omega, by omega, o_x.mono B4.size, o_y.mono B5.size, B6⟩
set_option maxRecDepth 100000 in
set_option maxHeartbeats 1600000 in
theorem rGcd_any (A0 : Option Addr) (n0 c0 : Nat) (l0 : List Nat) (A1 : Option Addr) (n1 c1 : Nat) (l1 : List Nat) (w : World) (hr_0 : Lim w A0 n0 c0 l0) (hr_1 : Lim w A1 n1 c1 l1) (hn0 : n0 ≤ 268435456) (hn1 : n1 ≤ 268435456) :
    Calls Tryd.prog 29 #[.slice A0 n0 c0, .slice A1 n1 c1] w fun e w' => ∃ A2 m c2, e = .returned (.slice A2 m c2) ∧ m ≤ 4 * n0 + 4 * n1 ∧ OwnL w' w.heap.size A2 m c2 (lmb (Nat.gcd (vl l0) (vl l1))) ∧ Below w.heap.size w w' := by
  go_enter Tryd.func29, Tryd.ntmps29
  have B0 := Below.refl w.heap.size w
  go_wp2_with fail
  refine (digits_any _ _ _ _ _ (hr_0.below B0) (by omega)).mono ?_
  rintro e w1 ⟨A_d, m_d, c_d, rfl, hm_d, o_d, b1⟩
  have B1 := below_step B0 b1 B0.size
  go_wp2_with fail
  refine (digits_any _ _ _ _ _ (hr_1.below B1) (by omega)).mono ?_
  rintro e w2 ⟨A_f, m_f, c_f, rfl, hm_f, o_f, b2⟩
  replace o_d := o_d.below b2
  have B2 := below_step B1 b2 B1.size
  obtain ⟨a, ha⟩ : ∃ a, vl l0 = a := ⟨_, rfl⟩
  obtain ⟨b, hb⟩ : ∃ b, vl l1 = b := ⟨_, rfl⟩
  rw [ha] at o_d
  rw [hb] at o_f
  have HA := Lib.hid ha
  have HB := Lib.hid hb
  clear ha hb
  go_wp2_with fail
  go_loopg [5, 6] b (fun y xv yv wr => ∃ (x : Nat) (C : Option Addr) (m y1 : Nat) (C' : Option Addr) (m' y2 : Nat), xv = .slice C m y1 ∧ yv = .slice C' m' y2 ∧ m ≤ 4 * n0 + 4 * n1 ∧ m' ≤ 4 * n1 ∧ OwnD wr w.heap.size C m y1 (dg x) ∧ OwnD wr w.heap.size C' m' y2 (dg y) ∧ Hid (Nat.gcd x y = Nat.gcd a b) ∧ Below w.heap.size w wr)
  case atStart => exact ⟨a, _, _, _, _, _, _, rfl, rfl, by omega, by omega, o_d, o_f.mono B1.size, rfl, B2⟩
  case round =>
    obtain ⟨x, C, m, y1, C', m', y2, rfl, rfl, hm, hm', hox, hoy, HG, hb⟩ := hrel
    have hly := hoy.len
    by_cases hy0 : gk = 0
    · subst hy0
      rw [dg_zero] at hly
      obtain rfl : 0 = m' := hly
      have hg := HG.out
      rw [Nat.gcd_zero_right] at hg
      have HX := Lib.hid hg
      have hlm := limbs_any C m y1 (dg x) wr hox.ints (by omega)
      rw [dv_dg] at hlm
      clear hg
      go_wp2_with fail
      refine hlm.mono ?_; rintro e w5 ⟨A5, m5, c5, rfl, hm5, ho5, hb5⟩
      go_wp2_with fail
      go_ret
      rw [HA.out, HB.out, ← HX.out]
      exact ⟨_, _, _, rfl, by omega, ho5.mono hb.size, below_step hb hb5 hb.size⟩
    · have hpos : 0 < m' := by
        rcases Nat.eq_zero_or_pos m' with h | h
        · rw [h] at hly
          have := (Num.dig_eq_nil (b := 256) (by decide) gk).1 (List.eq_nil_of_length_eq_zero hly)
          omega
        · exact h
      have hdv := rdiv_any C C' m y1 m' y2 (dg x) (dg gk) wr hox.ints hoy.ints (by omega) (by omega) (by rw [dv_dg]; omega)
      rw [dv_dg, dv_dg] at hdv
      have HY := Lib.hid hy0
      clear hy0 hly
      go_wp2_with fail
      refine hdv.mono ?_; rintro e w3 ⟨A3, m3, c3, A4, m4, c4, rfl, hm3, hm4, ho3, ho4, hb3⟩
      go_wp2_with fail
      go_roundg (x % gk)
      case measure => exact Nat.mod_lt _ (Nat.pos_of_ne_zero HY.out)
      case rel =>
        refine ⟨gk, _, _, _, _, _, _, rfl, rfl, by omega, by omega, hoy.below hb3, ho4.mono hb.size, ?_, below_step hb hb3 hb.size⟩
        show _ = _
        rw [← HG.out, Nat.gcd_comm, ← Nat.gcd_rec, Nat.gcd_comm]
end Go.Proofs.YticheiocmhaakaaDoor
