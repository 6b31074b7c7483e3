/- NatTexts: a number's text is as long as its digits; a digit more is ten times it, and that digit. No condition. -/
import Derived.Test.YticheiocmhaakaaDoorLawNat
import Derived.Test.YticheiocmhaakaaDoorDecMore
import Derived.Test.YticheiocmhaakaaDoorRefF
namespace Go.Proofs.YticheiocmhaakaaDoor
open Go.RowKit

set_option maxRecDepth 100000 in
set_option maxHeartbeats 3200000 in
theorem natTexts_zero (A0 : Option Addr) (n0 c0 : Nat) (l0 : List Nat) (x1 : Nat) (w : World) (hr_0 : Lim w A0 n0 c0 l0) (hx1 : x1 < 256) (h0 : n0 ≤ 8) (hv : vl l0 = 0) :
    Calls Tryd.prog 6 #[.slice A0 n0 c0, .int .u8 x1] w fun e w' => e = .returned (.bool true) ∧ Below w.heap.size w w' := by
  obtain ⟨k, hk⟩ : ∃ k, x1 % 10 = k := ⟨_, rfl⟩
  have ek : (x1 : Int) % 10 = (k : Int) := by omega
  have hkl : k < 10 := by omega
  obtain ⟨z, hz⟩ : ∃ z, 48 + k = z := ⟨_, rfl⟩
  have ez : (48 : Int) + (k : Int) = (z : Int) := by omega
  have hzl : z < 58 := by omega
  have kc := fun w0 g hg => conv_one (P := Tryd.prog) 36 9 5 Tryd.underlying36 Tryd.underlying5 Tryd.underlying9 z (by omega) w0 g hg
  have htx := fun w0 h0 => text_any A0 n0 c0 l0 w0 h0 (by omega)
  have hvl : vl l0 < 4294967296 ^ 8 := by
    have h1 : vl l0 < 4294967296 ^ l0.length := Num.val_lt _ l0 hr_0.lt
    have h2 : 4294967296 ^ l0.length ≤ 4294967296 ^ 8 := Nat.pow_le_pow_right (by decide) (by rw [hr_0.len]; exact h0)
    omega
  rw [hv] at htx
  replace htx : ∀ w0, Lim w0 A0 n0 c0 l0 → Calls Tryd.prog 25 #[.slice A0 n0 c0] w0 fun e w' => e = .returned (.string ⟨#[48]⟩) ∧ Below w0.heap.size w0 w' := htx
  have hps := fun w0 => parse_bad [48, z] (by simp; omega) w0 (by simp) (lead_bad z [])
  have hadd : ∀ w0, (Op.stringOp .add ⟨#[48]⟩ (str [z])).run Tryd.prog w0 = .ok (.string (str [48, z])) w0 := fun w0 => str_add [48] [z] (by simp) w0
  generalize str [48, z] = S3 at *
  generalize str [z] = S2 at *
  have HZ := Lib.hid hz
  have HK := Lib.hid hk
  clear hz hk hvl
  go_enter Tryd.func6, Tryd.ntmps6
  have B0 := Below.refl w.heap.size w
  go_wp2_with fail
  refine (awake_any _).mono ?_
  rintro e w1 ⟨rfl, b1⟩
  have B1 := below_step B0 b1 B0.size
  go_wp2_with fail
  refine (htx _ (hr_0.below B1)).mono ?_
  rintro e w2 ⟨rfl, b2⟩
  have B2 := below_step B1 b2 B1.size
  go_wp2_with fail
  refine (mul_any _ _ _ _ _ _ _ [10] _ ((hr_0.below B2).alloc _) (Ints.one (w := _) .u32 4294967296 33 10 rfl (by omega) rfl) (by omega) (by omega)).mono ?_
  rintro e w3 ⟨A_m, m_m, rfl, hm_m, o_m, b3⟩
  have B3 := below_step (B2.alloc B2.size _) b3 (B2.alloc B2.size _).size
  go_wp2_with fail
  refine (add_any _ _ _ _ _ _ _ [k] _ (o_m.alloc _).ints (Ints.one (w := _) .u32 4294967296 33 k rfl (by omega) rfl) (by omega) (by omega)).mono ?_
  rintro e w4 ⟨A_s, m_s, rfl, hm_s, o_s, b4⟩
  replace o_m := (o_m.alloc _).below b4
  have B4 := below_step (B3.alloc B3.size _) b4 (B3.alloc B3.size _).size
  have hsum : vl (lmb (vl l0 * vl [10])) + vl [k] = k + 10 * vl l0 := by
    rw [vl_lmb, show vl [10] = 10 from rfl, show vl [k] = k by simp [vl, Num.val]]; omega
  rw [hsum] at o_s
  go_wp2_with fail
  refine (text_any _ _ _ _ _ o_s.ints (by omega)).mono ?_
  rintro e w5 ⟨rfl, b5⟩
  replace o_m := o_m.below b5
  replace o_s := o_s.below b5
  have B5 := below_step B4 b5 B4.size
  generalize str (decTxt _) = S4
  go_wp2_with fail
  refine (hps _).mono ?_
  rintro e w6 ⟨rfl, b6⟩
  replace o_m := (o_m.alloc _).below b6
  replace o_s := (o_s.alloc _).below b6
  have B6 := below_step (B5.alloc B5.size _) b6 (B5.alloc B5.size _).size
  go_wp2_with fail
  refine (rtrim_any _ _ _ _ _ (hr_0.below B6) (by omega)).mono ?_
  rintro e w7 ⟨A_t, m_t, c_t, rfl, hm_t, o_t, b7⟩
  replace o_m := o_m.below b7
  replace o_s := o_s.below b7
  have B7 := below_step B6 b7 B6.size
  obtain rfl := lmb_len_zero o_t hv
  rcases Nat.eq_zero_or_pos k with rfl | hk0
  · go_wp2_with fail
    go_ret
    exact ⟨rfl, B7⟩
  · have hk1 : ((k : Int) == 0) = false := by simp; omega
    go_wp2_with fail
    go_ret
    exact ⟨rfl, B7⟩

set_option maxRecDepth 100000 in
set_option maxHeartbeats 3200000 in
theorem natTexts_pos (A0 : Option Addr) (n0 c0 : Nat) (l0 : List Nat) (x1 : Nat) (w : World) (hr_0 : Lim w A0 n0 c0 l0) (hx1 : x1 < 256) (h0 : n0 ≤ 8) (hv : 0 < vl l0) :
    Calls Tryd.prog 6 #[.slice A0 n0 c0, .int .u8 x1] w fun e w' => e = .returned (.bool true) ∧ Below w.heap.size w w' := by
  obtain ⟨k, hk⟩ : ∃ k, x1 % 10 = k := ⟨_, rfl⟩
  have ek : (x1 : Int) % 10 = (k : Int) := by omega
  have hkl : k < 10 := by omega
  obtain ⟨z, hz⟩ : ∃ z, 48 + k = z := ⟨_, rfl⟩
  have ez : (48 : Int) + (k : Int) = (z : Int) := by omega
  have hzl : z < 58 := by omega
  have kc := fun w0 g hg => conv_one (P := Tryd.prog) 36 9 5 Tryd.underlying36 Tryd.underlying5 Tryd.underlying9 z (by omega) w0 g hg
  have htx := fun w0 h0 => text_any A0 n0 c0 l0 w0 h0 (by omega)
  have hvl : vl l0 < 4294967296 ^ 8 := by
    have h1 : vl l0 < 4294967296 ^ l0.length := Num.val_lt _ l0 hr_0.lt
    have h2 : 4294967296 ^ l0.length ≤ 4294967296 ^ 8 := Nat.pow_le_pow_right (by decide) (by rw [hr_0.len]; exact h0)
    omega
  have h10 : (4294967296 : Nat) ^ 8 * 10 < 10 ^ (79 + 1) := by decide
  have hrd : Reads (decTxt (k + 10 * vl l0)) := reads_dec _ 79 (by omega) (by omega)
  have hps := fun w0 => parse_ok (decTxt (k + 10 * vl l0)) (digs_lt hrd.digs) w0 hrd
  rw [(dec_decTxt (k + 10 * vl l0)).1] at hps
  have hadd : ∀ w0, (Op.stringOp .add (str (decTxt (vl l0))) (str [z])).run Tryd.prog w0 = .ok (.string (str (decTxt (k + 10 * vl l0)))) w0 := fun w0 => by
    rw [str_add (decTxt (vl l0)) [z] (by have := decTxt_len 79 (vl l0) (by omega); simp; omega) w0, decTxt_snoc hkl hv, hz]
  generalize str (decTxt (vl l0)) = S1 at *
  obtain ⟨S3, hS3⟩ : ∃ S3, str (decTxt (k + 10 * vl l0)) = S3 := ⟨_, rfl⟩
  simp only [hS3] at hps hadd
  have HS3 := Lib.hid hS3
  clear hS3 hrd h10
  generalize str [z] = S2 at *
  have HZ := Lib.hid hz
  have HK := Lib.hid hk
  clear hz hk hvl
  go_enter Tryd.func6, Tryd.ntmps6
  have B0 := Below.refl w.heap.size w
  go_wp2_with fail
  refine (awake_any _).mono ?_
  rintro e w1 ⟨rfl, b1⟩
  have B1 := below_step B0 b1 B0.size
  go_wp2_with fail
  refine (htx _ (hr_0.below B1)).mono ?_
  rintro e w2 ⟨rfl, b2⟩
  have B2 := below_step B1 b2 B1.size
  go_wp2_with fail
  refine (mul_any _ _ _ _ _ _ _ [10] _ ((hr_0.below B2).alloc _) (Ints.one (w := _) .u32 4294967296 33 10 rfl (by omega) rfl) (by omega) (by omega)).mono ?_
  rintro e w3 ⟨A_m, m_m, rfl, hm_m, o_m, b3⟩
  have B3 := below_step (B2.alloc B2.size _) b3 (B2.alloc B2.size _).size
  go_wp2_with fail
  refine (add_any _ _ _ _ _ _ _ [k] _ (o_m.alloc _).ints (Ints.one (w := _) .u32 4294967296 33 k rfl (by omega) rfl) (by omega) (by omega)).mono ?_
  rintro e w4 ⟨A_s, m_s, rfl, hm_s, o_s, b4⟩
  replace o_m := (o_m.alloc _).below b4
  have B4 := below_step (B3.alloc B3.size _) b4 (B3.alloc B3.size _).size
  have hsum : vl (lmb (vl l0 * vl [10])) + vl [k] = k + 10 * vl l0 := by
    rw [vl_lmb, show vl [10] = 10 from rfl, show vl [k] = k by simp [vl, Num.val]]; omega
  rw [hsum] at o_s
  have htx2 := text_any _ _ _ _ _ o_s.ints (by omega)
  rw [vl_lmb, HS3.out] at htx2
  go_wp2_with fail
  refine (htx2).mono ?_
  rintro e w5 ⟨rfl, b5⟩
  replace o_m := o_m.below b5
  replace o_s := o_s.below b5
  have B5 := below_step B4 b5 B4.size
  go_wp2_with fail
  refine (hps _).mono ?_
  rintro e w6 ⟨A_p, m_p, rfl, hm_p, o_p, b6⟩
  replace o_m := (o_m.alloc _).below b6
  replace o_s := (o_s.alloc _).below b6
  have B6 := below_step (B5.alloc B5.size _) b6 (B5.alloc B5.size _).size
  go_wp2_with fail
  refine (rtrim_any _ _ _ _ _ (hr_0.below B6) (by omega)).mono ?_
  rintro e w7 ⟨A_t, m_t, c_t, rfl, hm_t, o_t, b7⟩
  replace o_m := o_m.below b7
  replace o_s := o_s.below b7
  replace o_p := o_p.below b7
  have B7 := below_step B6 b7 B6.size
  have hz1 := lmb_len_pos o_t hv
  have hz2 : ((m_t : Int) == 0) = false := by simp; omega
  go_wp2_with fail
  refine (same_true _ _ _ _ _ _ _ _ _ (o_p.alloc _).ints (o_s.alloc _).ints (by omega) (by omega) rfl).mono ?_
  rintro e w8 ⟨rfl, b8⟩
  replace o_m := (o_m.alloc _).below b8
  replace o_s := (o_s.alloc _).below b8
  replace o_p := (o_p.alloc _).below b8
  replace o_t := (o_t.alloc _).below b8
  have B8 := below_step (B7.alloc B7.size _) b8 (B7.alloc B7.size _).size
  go_wp2_with fail
  go_ret
  exact ⟨rfl, B8⟩

set_option maxRecDepth 100000 in
set_option maxHeartbeats 800000 in
theorem natTexts_any (A0 : Option Addr) (n0 c0 : Nat) (l0 : List Nat) (x1 : Nat) (w : World) (hr_0 : Lim w A0 n0 c0 l0) (hn0 : n0 ≤ maxLen) (hx1 : x1 < 256) :
    Calls Tryd.prog 6 #[.slice A0 n0 c0, .int .u8 x1] w fun e w' => e = .returned (.bool true) ∧ Below w.heap.size w w' := by
  unfold maxLen at hn0
  by_cases h0 : 8 < n0
  · go_enter Tryd.func6, Tryd.ntmps6
    go_wp2_with fail
    refine (awake_any _).mono ?_; rintro e w1 ⟨rfl, b1⟩
    go_wp2_with fail
    go_ret
    exact ⟨rfl, b1⟩
  · rcases Nat.eq_zero_or_pos (vl l0) with hv | hv
    · exact natTexts_zero A0 n0 c0 l0 x1 w hr_0 hx1 (by omega) hv
    · exact natTexts_pos A0 n0 c0 l0 x1 w hr_0 hx1 (by omega) hv
end Go.Proofs.YticheiocmhaakaaDoor
