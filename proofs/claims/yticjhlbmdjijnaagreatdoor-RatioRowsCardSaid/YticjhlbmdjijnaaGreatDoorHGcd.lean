/- The contracts of nat.Gcd and of heijunkaref01.Gcd. No condition but the reach of a slice. -/
import Derived.Test.YticjhlbmdjijnaaGreatDoorG5
import Derived.Test.YticjhlbmdjijnaaGreatDoorG2
namespace Go.Proofs.YticjhlbmdjijnaaGreatDoor
open Go.RowKit

set_option maxRecDepth 100000 in
set_option maxHeartbeats 800000 in
theorem gcd_any (A A' : Option Addr) (n c n' c' : Nat) (l l' : List Nat) (w : World) (hr : Lim w A n c l) (hr' : Lim w A' n' c' l') (hn : n ≤ 549755813888) (hn' : n' ≤ 549755813888) :
    Calls Tryz.prog 92 #[.slice A n c, .slice A' n' c'] w fun e w' => ∃ A2 m, e = .returned (.slice A2 m m) ∧ m ≤ n + n' ∧ OwnL w' w.heap.size A2 m m (lmb (Nat.gcd (vl l) (vl l'))) ∧ Below w.heap.size w w' := by
  have t1 := fun w0 h0 => trim_any A n c l w0 h0 (by omega)
  have t2 := fun w0 h0 => trim_any A' n' c' l' w0 h0 (by omega)
  generalize vl l = a at *
  generalize vl l' = b at *
  go_enter Tryz.func92, Tryz.ntmps92
  go_wp2_with fail
  refine (t1 _ hr).mono ?_; rintro e w1 ⟨A1, m1, rfl, hm1, ho1, hb1⟩
  go_wp2_with fail
  refine (t2 _ (hr'.below hb1)).mono ?_; rintro e w2 ⟨A2, m2, rfl, hm2, ho2, hb2⟩
  have hbe := below_step hb1 hb2 hb1.size
  have o1 := ho1.below hb2
  have o2 := ho2.mono hb1.size
  clear ho1 ho2 t1 t2
  go_wp2_with fail
  go_loopg [0, 1] b (fun y av bv wr => ∃ x B m B' m', av = .slice B m m ∧ bv = .slice B' m' m' ∧ m ≤ n + n' ∧ m' ≤ n' ∧ m ≤ 549755813888 ∧ OwnL wr w.heap.size B m m (lmb x) ∧ OwnL wr w.heap.size B' m' m' (lmb y) ∧ Hid (Nat.gcd x y = Nat.gcd a b) ∧ Below w.heap.size w wr)
  case atStart => exact ⟨a, _, _, _, _, rfl, rfl, by omega, by omega, by omega, o1, o2, rfl, hbe⟩
  case round =>
    obtain ⟨x, B, m, B', m', rfl, rfl, hm, hm', hml, hox, hoy, HG, hb⟩ := hrel
    have hlx := hox.len
    have hly := hoy.len
    by_cases hy0 : gk = 0
    · subst hy0
      rw [lmb_zero] at hly
      obtain rfl : 0 = m' := hly
      have hg := HG.out
      rw [Nat.gcd_zero_right] at hg
      have HX := Lib.hid hg
      clear hg
      go_wp2_with fail
      go_ret
      rw [← HX.out]
      exact ⟨_, _, rfl, hm, hox, hb⟩
    · have hpos : 0 < m' := by
        rcases Nat.eq_zero_or_pos m' with h | h
        · rw [h] at hly
          have := (Num.dig_eq_nil (b := 4294967296) (by decide) gk).1 (List.eq_nil_of_length_eq_zero hly)
          omega
        · exact h
      have hdv := div_any B B' m m m' m' (lmb x) (lmb gk) wr hox.ints hoy.ints (by omega) (by omega) (by rw [vl_lmb]; omega)
      rw [vl_lmb, vl_lmb] at hdv
      have HY := Lib.hid hy0
      clear hy0 hlx hly
      go_wp2_with fail
      refine hdv.mono ?_; rintro e w3 ⟨A3, m3, A4, m4, rfl, ho3, ho4, hm3, hm4, hb3⟩
      go_wp2_with fail
      go_roundg (x % gk)
      case measure => exact Nat.mod_lt _ (Nat.pos_of_ne_zero HY.out)
      case rel =>
        refine ⟨gk, _, _, _, _, rfl, rfl, by omega, by omega, by omega, hoy.below hb3, ho4.mono hb.size, ?_, below_step hb hb3 hb.size⟩
        show _ = _
        rw [← HG.out, Nat.gcd_comm, ← Nat.gcd_rec, Nat.gcd_comm]
set_option maxRecDepth 100000 in
set_option maxHeartbeats 1600000 in
theorem rGcd_any (A0 : Option Addr) (n0 c0 : Nat) (l0 : List Nat) (A1 : Option Addr) (n1 c1 : Nat) (l1 : List Nat) (w : World) (hr_0 : Lim w A0 n0 c0 l0) (hr_1 : Lim w A1 n1 c1 l1) (hn0 : n0 ≤ 268435456) (hn1 : n1 ≤ 268435456) :
    Calls Tryz.prog 70 #[.slice A0 n0 c0, .slice A1 n1 c1] w fun e w' => ∃ A2 m c2, e = .returned (.slice A2 m c2) ∧ m ≤ 4 * n0 + 4 * n1 ∧ OwnL w' w.heap.size A2 m c2 (lmb (Nat.gcd (vl l0) (vl l1))) ∧ Below w.heap.size w w' := by
  go_enter Tryz.func70, Tryz.ntmps70
  have B0 := Below.refl w.heap.size w
  go_wp2_with fail
  refine (digits_any _ _ _ _ _ (hr_0.below B0) (by omega)).mono ?_
  rintro e w1 ⟨A_d, m_d, c_d, rfl, hm_d, o_d, b1⟩
  have B1 := below_step B0 b1 B0.size
  go_wp2_with fail
  refine (digits_any _ _ _ _ _ (hr_1.below B1) (by omega)).mono ?_
  rintro e w2 ⟨A_f, m_f, c_f, rfl, hm_f, o_f, b2⟩
  replace o_d := o_d.below b2
  have B2 := below_step B1 b2 B1.size
  obtain ⟨a, ha⟩ : ∃ a, vl l0 = a := ⟨_, rfl⟩
  obtain ⟨b, hb⟩ : ∃ b, vl l1 = b := ⟨_, rfl⟩
  rw [ha] at o_d
  rw [hb] at o_f
  have HA := Lib.hid ha
  have HB := Lib.hid hb
  clear ha hb
  go_wp2_with fail
  go_loopg [5, 6] b (fun y xv yv wr => ∃ (x : Nat) (C : Option Addr) (m y1 : Nat) (C' : Option Addr) (m' y2 : Nat), xv = .slice C m y1 ∧ yv = .slice C' m' y2 ∧ m ≤ 4 * n0 + 4 * n1 ∧ m' ≤ 4 * n1 ∧ OwnD wr w.heap.size C m y1 (dg x) ∧ OwnD wr w.heap.size C' m' y2 (dg y) ∧ Hid (Nat.gcd x y = Nat.gcd a b) ∧ Below w.heap.size w wr)
  case atStart => exact ⟨a, _, _, _, _, _, _, rfl, rfl, by omega, by omega, o_d, o_f.mono B1.size, rfl, B2⟩
  case round =>
    obtain ⟨x, C, m, y1, C', m', y2, rfl, rfl, hm, hm', hox, hoy, HG, hb⟩ := hrel
    have hly := hoy.len
    by_cases hy0 : gk = 0
    · subst hy0
      rw [dg_zero] at hly
      obtain rfl : 0 = m' := hly
      have hg := HG.out
      rw [Nat.gcd_zero_right] at hg
      have HX := Lib.hid hg
      have hlm := limbs_any C m y1 (dg x) wr hox.ints (by omega)
      rw [dv_dg] at hlm
      clear hg
      go_wp2_with fail
      refine hlm.mono ?_; rintro e w5 ⟨A5, m5, c5, rfl, hm5, ho5, hb5⟩
      go_wp2_with fail
      go_ret
      rw [HA.out, HB.out, ← HX.out]
      exact ⟨_, _, _, rfl, by omega, ho5.mono hb.size, below_step hb hb5 hb.size⟩
    · have hpos : 0 < m' := by
        rcases Nat.eq_zero_or_pos m' with h | h
        · rw [h] at hly
          have := (Num.dig_eq_nil (b := 256) (by decide) gk).1 (List.eq_nil_of_length_eq_zero hly)
          omega
        · exact h
      have hdv := rdiv_any C C' m y1 m' y2 (dg x) (dg gk) wr hox.ints hoy.ints (by omega) (by omega) (by rw [dv_dg]; omega)
      rw [dv_dg, dv_dg] at hdv
      have HY := Lib.hid hy0
      clear hy0 hly
      go_wp2_with fail
      refine hdv.mono ?_; rintro e w3 ⟨A3, m3, c3, A4, m4, c4, rfl, hm3, hm4, ho3, ho4, hb3⟩
      go_wp2_with fail
      go_roundg (x % gk)
      case measure => exact Nat.mod_lt _ (Nat.pos_of_ne_zero HY.out)
      case rel =>
        refine ⟨gk, _, _, _, _, _, _, rfl, rfl, by omega, by omega, hoy.below hb3, ho4.mono hb.size, ?_, below_step hb hb3 hb.size⟩
        show _ = _
        rw [← HG.out, Nat.gcd_comm, ← Nat.gcd_rec, Nat.gcd_comm]
end Go.Proofs.YticjhlbmdjijnaaGreatDoor
