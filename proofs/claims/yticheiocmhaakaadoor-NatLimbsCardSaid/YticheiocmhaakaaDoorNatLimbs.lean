/- NatLimbs: times 2^32 a number has one limb 0 more in front; divided by it, the first limb is the rest; its bytes are as many as its limbs say. No condition. -/
import Derived.Test.YticheiocmhaakaaDoorNatO
namespace Go.Proofs.YticheiocmhaakaaDoor
open Go.RowKit

set_option maxRecDepth 100000 in
set_option maxHeartbeats 3200000 in
theorem natLimbs_any (A0 : Option Addr) (n0 c0 : Nat) (l0 : List Nat) (w : World) (hr_0 : Lim w A0 n0 c0 l0) (hn0 : n0 ≤ maxLen) :
    Calls Tryd.prog 10 #[.slice A0 n0 c0] w fun e w' => e = .returned (.bool true) ∧ Below w.heap.size w w' := by
  unfold maxLen at hn0
  by_cases h0 : 12 < n0
  · go_enter Tryd.func10, Tryd.ntmps10
    go_wp2_with fail
    refine (awake_any _).mono ?_; rintro e w1 ⟨rfl, b1⟩
    go_wp2_with fail
    go_ret
    exact ⟨rfl, b1⟩
  go_enter Tryd.func10, Tryd.ntmps10
  have B0 := Below.refl w.heap.size w
  go_wp2_with fail
  refine (awake_any _).mono ?_
  rintro e w1 ⟨rfl, b1⟩
  have B1 := below_step B0 b1 B0.size
  go_wp2_with fail
  have o_u : OwnL (w1.alloc (.cells #[.int .u32 0, .int .u32 1] 33)) w.heap.size (some ⟨w1.heap.size, 0, none⟩) 2 2 [0, 1] := OwnI.lit (w := w1) .u32 4294967296 33 (n := 2) (cs := #[.int .u32 0, .int .u32 1]) [0, 1] rfl rfl rfl (by decide) (by omega) B1.size
  have B1a : Below w.heap.size w (w1.alloc (.cells #[.int .u32 0, .int .u32 1] 33)) := B1.alloc B1.size _
  refine (mul_any _ _ _ _ _ _ _ _ _ (hr_0.below B1a) o_u.ints (by omega) (by omega)).mono ?_
  rintro e w2 ⟨A_p, m_p, rfl, hm_p, o_p, b2⟩
  replace o_u := o_u.below b2
  have B2 := below_step B1a b2 B1a.size
  go_wp2_with fail
  refine (div_any _ _ _ _ _ _ _ _ _ (hr_0.below B2) o_u.ints (by omega) (by omega) (by decide)).mono ?_
  rintro e w3 ⟨A_q, m_q, A_r, m_r, rfl, o_q, o_r, hm_q, hm_r, b3⟩
  replace o_u := o_u.below b3
  replace o_p := o_p.below b3
  have B3 := below_step B2 b3 B2.size
  go_wp2_with fail
  refine (rtrim_any _ _ _ _ _ (hr_0.below B3) (by omega)).mono ?_
  rintro e w4 ⟨A_t, m_t, c_t, rfl, hm_t, o_t, b4⟩
  replace o_u := o_u.below b4
  replace o_p := o_p.below b4
  replace o_q := o_q.below b4
  replace o_r := o_r.below b4
  have B4 := below_step B3 b4 B3.size
  go_wp2_with fail
  refine (bytes_any _ _ _ _ _ (hr_0.below B4) (by omega)).mono ?_
  rintro e w5 ⟨A_b, m_b, c_b, rfl, hm_b, o_b, b5⟩
  replace o_u := o_u.below b5
  replace o_p := o_p.below b5
  replace o_q := o_q.below b5
  replace o_r := o_r.below b5
  replace o_t := o_t.below b5
  have B5 := below_step B4 b5 B4.size
  obtain rfl : m_b = 2 + 4 * m_t := by
    have h1 := o_b.len
    have h2 := o_t.len
    have h3 := lmb_len l0 hr_0.lt
    have h4 := hr_0.len
    rw [enc_yes (by omega), List.length_append, flat_len] at h1
    simp at h1
    omega
  rcases Nat.eq_zero_or_pos (vl l0) with hv | hv
  · obtain rfl := lmb_len_zero o_t hv
    obtain rfl := lmb_len_zero o_p (by rw [hv, Nat.zero_mul])
    obtain rfl := lmb_len_zero o_q (by rw [hv, Nat.zero_div])
    obtain rfl := lmb_len_zero o_r (by rw [hv, Nat.zero_mod])
    go_wp2_with fail
    go_ret
    exact ⟨rfl, B5⟩
  · have hz := lmb_len_pos o_t hv
    have hz2 : ((m_t : Int) == 0) = false := by simp; omega
    obtain ⟨gt, x0, rfl, _, _, hx0, _⟩ := o_t.get (k := 0) (by omega)
    clear hx0
    have hcap := o_t.cap
    have hc1 : (1 : Int) ≤ (c_t : Int) := by omega
    have hm1 : (1 : Int) ≤ (m_t : Int) := by omega
    obtain ⟨A_c, hA_c, _⟩ := o_t.ints.cutAt (k := 1) (by omega)
    go_wp2_with (at_builtin; refine wpList_appI _ rfl _ _ _ rfl 33 4 Tryd.underlying22 info_u32 (by omega) (base := w.heap.size) (OwnI.lit .u32 4294967296 33 (n := 1) [0] rfl rfl rfl (by decide) (by omega) B5.size) rfl ((o_t.alloc _).ints) rfl (by omega) (by simp; have := B5.size; omega) ?_; intro A_a c_a wa o_a ga aa)
    replace o_t := (o_t.alloc (.cells #[.int .u32 0] 33)).kept ga (fun ad he h => by have h1 := (o_t.lt_ ad he).2; simp at h; omega)
    replace o_p := (o_p.alloc (.cells #[.int .u32 0] 33)).kept ga (fun ad he h => by have h1 := (o_p.lt_ ad he).2; simp at h; omega)
    replace o_q := (o_q.alloc (.cells #[.int .u32 0] 33)).kept ga (fun ad he h => by have h1 := (o_q.lt_ ad he).2; simp at h; omega)
    replace o_r := (o_r.alloc (.cells #[.int .u32 0] 33)).kept ga (fun ad he h => by have h1 := (o_r.lt_ ad he).2; simp at h; omega)
    have Ba : Below w.heap.size w wa := below_own (B5.alloc B5.size _) ga (by simp; have := B5.size; omega) (fun ad h => by cases h; exact B5.size)
    have hup : lmb (vl l0 * vl [0, 1]) = [0] ++ lmb (vl l0) := by
      rw [show vl [0, 1] = 4294967296 from rfl, Nat.mul_comm]
      have := Num.dig_cons (b := 4294967296) (by decide) (x := 0) (m := vl l0) (by decide) (by omega)
      rw [Nat.zero_add] at this
      exact this
    have hdn : lmb (vl l0) = vl l0 % 4294967296 :: lmb (vl l0 / 4294967296) := Num.dig_pos (by decide) hv
    refine (same_true _ _ _ _ _ _ _ _ _ o_p.ints o_a.ints (by omega) (by omega) hup).mono ?_
    rintro e w6 ⟨rfl, b6⟩
    replace o_t := o_t.below b6
    replace o_p := o_p.below b6
    replace o_q := o_q.below b6
    replace o_r := o_r.below b6
    replace o_a := o_a.below b6
    have B6 := below_step Ba b6 Ba.size
    have hcut := o_t.ints.cutAt (k := 1) (by omega)
    rw [hA_c] at hcut
    obtain ⟨_, rfl, hcut⟩ := hcut
    go_wp2_with fail
    refine (same_true _ _ _ _ _ _ _ _ _ o_q.ints hcut (by omega) (by omega) (by rw [hdn]; rfl)).mono ?_
    rintro e w7 ⟨rfl, b7⟩
    replace o_t := o_t.below b7
    replace o_p := o_p.below b7
    replace o_q := o_q.below b7
    replace o_r := o_r.below b7
    replace o_a := o_a.below b7
    have B7 := below_step B6 b7 B6.size
    go_wp2_with fail
    refine (rtrim_any _ _ _ _ _ (o_t.ints.take (k := 1) (c' := c_t) (by omega) (by omega)) (by omega)).mono ?_
    rintro e w8 ⟨A_v, m_v, c_v, rfl, hm_v, o_v, b8⟩
    replace o_t := o_t.below b8
    replace o_p := o_p.below b8
    replace o_q := o_q.below b8
    replace o_r := o_r.below b8
    replace o_a := o_a.below b8
    have B8 := below_step B7 b8 B7.size
    go_wp2_with fail
    refine (same_true _ _ _ _ _ _ _ _ _ o_r.ints o_v.ints (by omega) (by omega) (by rw [hdn]; simp [vl, Num.val])).mono ?_
    rintro e w9 ⟨rfl, b9⟩
    replace o_t := o_t.below b9
    replace o_p := o_p.below b9
    replace o_q := o_q.below b9
    replace o_r := o_r.below b9
    replace o_a := o_a.below b9
    replace o_v := o_v.below b9
    have B9 := below_step B8 b9 B8.size
    go_wp2_with fail
    go_ret
    exact ⟨rfl, B9⟩
end Go.Proofs.YticheiocmhaakaaDoor
