/- WholeNumbers: of small numbers all is as with int64. No condition. -/
import Derived.Test.YtodgchflhimjfaaDoorGP
namespace Go.Proofs.YtodgchflhimjfaaDoor
open Go.RowKit

theorem tdiv_zv (sa sb : Bool) (A B : Nat) : Int.tdiv (zv sa A) (zv sb B) = zv (sa != sb) (A / B) := by
  have h : Int.tdiv (A : Int) (B : Int) = ((A / B : Nat) : Int) := by rw [Int.tdiv_eq_ediv_of_nonneg (by omega)]; exact (Int.natCast_ediv A B).symm
  cases sa <;> cases sb <;> simp [zv, h, Int.neg_tdiv, Int.tdiv_neg]
theorem wdiv_tdiv (a b : Int) :
    (Int.tdiv a b * b ≠ a ∧ decide (a < 0) ≠ decide (b < 0) → wdiv a b = Int.tdiv a b - 1) ∧ (¬ (Int.tdiv a b * b ≠ a ∧ decide (a < 0) ≠ decide (b < 0)) → wdiv a b = Int.tdiv a b) := by
  have hw := wrest a b
  have ht := tdiv_zv (decide (a < 0)) (decide (b < 0)) a.natAbs b.natAbs
  rw [zv_of, zv_of] at ht
  rw [← ht] at hw
  have hz : Int.tdiv a b * b = a ↔ a.natAbs % b.natAbs = 0 := by
    constructor
    · intro h
      rw [h, Int.sub_self] at hw
      have := congrArg Int.natAbs hw
      rw [zv_abs] at this
      exact this.symm
    · intro h
      rw [h] at hw
      have : zv (decide (a < 0)) 0 = 0 := by cases decide (a < 0) <;> rfl
      omega
  unfold wdiv
  rw [← ht]
  constructor
  · rintro ⟨h1, h2⟩
    rw [if_pos ⟨fun h => h1 (hz.2 h), h2⟩]
  · intro h
    rw [if_neg (fun ⟨h1, h2⟩ => h ⟨fun e => h1 (hz.1 e), h2⟩)]
theorem wdiv31 {a b : Int} (ha : -2147483648 ≤ a ∧ a ≤ 2147483647) (hb : -2147483648 ≤ b ∧ b ≤ 2147483647) (h0 : b ≠ 0) :
    (-2147483649 ≤ wdiv a b ∧ wdiv a b ≤ 2147483648) ∧ (-2147483648 ≤ wmod a b ∧ wmod a b ≤ 2147483648) ∧ (-2147483648 ≤ Int.tdiv a b ∧ Int.tdiv a b ≤ 2147483648) ∧ (-2147483648 ≤ Int.tdiv a b * b ∧ Int.tdiv a b * b ≤ 2147483648) := by
  have h1 := (wmod_sign a b h0).1
  have h2 := wdiv_tdiv a b
  have ht := tdiv_zv (decide (a < 0)) (decide (b < 0)) a.natAbs b.natAbs
  rw [zv_of, zv_of] at ht
  have h3 : (Int.tdiv a b).natAbs = a.natAbs / b.natAbs := by rw [ht, zv_abs]
  have h4 : (Int.tdiv a b * b).natAbs ≤ a.natAbs := by rw [Int.natAbs_mul, h3]; exact Nat.div_mul_le_self ..
  have h5 : a.natAbs / b.natAbs ≤ a.natAbs := Nat.div_le_self ..
  refine ⟨?_, by omega, by omega, by omega⟩
  by_cases h : Int.tdiv a b * b ≠ a ∧ decide (a < 0) ≠ decide (b < 0)
  · rw [h2.1 h]; omega
  · rw [h2.2 h]; omega
theorem prod31 {a b : Int} (ha : -2147483648 ≤ a ∧ a ≤ 2147483647) (hb : -2147483648 ≤ b ∧ b ≤ 2147483647) : -4611686018427387904 ≤ a * b ∧ a * b ≤ 4611686018427387904 := by
  have h1 : a.natAbs * b.natAbs ≤ 2147483648 * 2147483648 := Nat.mul_le_mul (by omega) (by omega)
  rw [← Int.natAbs_mul] at h1
  omega
set_option maxRecDepth 100000 in
set_option maxHeartbeats 6400000 in
theorem wholeNumbers_any (a : Int) (b : Int) (w : World) (ha : -2147483648 ≤ a ∧ a ≤ 2147483647) (hb : -2147483648 ≤ b ∧ b ≤ 2147483647) :
    Calls Tryd.prog 7 #[.int .i32 a, .int .i32 b] w fun e w' => e = .returned (.bool true) ∧ Below w.heap.size w w' := by
  have R0 := Env.nil_ w
  have of1 := fun w0 => zof a w0 (by omega) (by omega)
  have of2 := fun w0 => zof b w0 (by omega) (by omega)
  have c1 : IntKind.i64.wrap a = a := IntWalk.i64_in _ (by omega)
  have c2 : IntKind.i64.wrap b = b := IntWalk.i64_in _ (by omega)
  have sa := zin_yes (x := a) (by omega) (by omega)
  have SA := Lib.hid sa
  have HAA := Lib.hid ha
  have HBB := Lib.hid hb
  clear sa
  by_cases hz0 : b = 0
  · subst hz0
    have c0 : wrap64 a = a := IntWalk.wrap64_in _ (by omega)
    have s0 := zin_yes (x := 0) (by decide) (by decide)
    have S0 := Lib.hid s0
    clear s0 HBB c2 ha hb
    go_enter Tryd.func7, Tryd.ntmps7
    go_wp2_with fail
    refine (wawake_any _).mono ?_
    rintro e w1 ⟨rfl, hb1⟩
    have R1 := (R0.below hb1)
    go_wp2_with fail
    refine (of1 _).mono ?_
    rintro e w2 ⟨b_x, A_x, n_x, rfl, z_x, hb2⟩
    have R2 := (((R1.below hb2).add z_x).alloc 24 #[.bool b_x, .slice A_x n_x n_x] (g := w2.heap.size) rfl rfl)
    go_wp2_with fail
    refine (of2 _).mono ?_
    rintro e w3 ⟨b_y, A_y, n_y, rfl, z_y, hb3⟩
    have R3 := (((R2.below hb3).add z_y).alloc 24 #[.bool b_y, .slice A_y n_y n_y] (g := w3.heap.size) rfl rfl)
    have k4x0 := R3.cell 1 0 rfl rfl
    have k4x1 := R3.cell 1 1 rfl rfl
    have k4y0 := R3.cell 0 0 rfl rfl
    have k4y1 := R3.cell 0 1 rfl rfl
    go_wp2_with fail
    clear k4x0 k4x1 k4y0 k4y1
    refine (zadd (K := 3) (R3.z 1 rfl) (R3.z 0 rfl) (by decide) (by decide) (by decide)).mono ?_
    rintro e w4 ⟨b_s, A_s, n_s, rfl, z_s, hb4⟩
    have R4 := ((R3.below hb4).add z_s)
    go_wp2_with fail
    refine (zsmall (R4.z 0 rfl) (by decide)).mono ?_
    rintro e w5 ⟨rfl, hb5⟩
    have R5 := (R4.below hb5)
    rw [Int.add_zero, SA.out.1, SA.out.2]
    have k6x0 := R5.cell 1 0 rfl rfl
    have k6x1 := R5.cell 1 1 rfl rfl
    have k6y0 := R5.cell 0 0 rfl rfl
    have k6y1 := R5.cell 0 1 rfl rfl
    go_wp2_with fail
    clear k6x0 k6x1 k6y0 k6y1
    refine (zsub (K := 3) (R5.z 2 rfl) (R5.z 1 rfl) (by decide) (by decide) (by decide)).mono ?_
    rintro e w6 ⟨b_d, A_d, n_d, rfl, z_d, hb6⟩
    have R6 := ((R5.below hb6).add z_d)
    go_wp2_with fail
    refine (zsmall (R6.z 0 rfl) (by decide)).mono ?_
    rintro e w7 ⟨rfl, hb7⟩
    have R7 := (R6.below hb7)
    rw [Int.sub_zero, SA.out.1, SA.out.2]
    have k8x0 := R7.cell 1 0 rfl rfl
    have k8x1 := R7.cell 1 1 rfl rfl
    have k8y0 := R7.cell 0 0 rfl rfl
    have k8y1 := R7.cell 0 1 rfl rfl
    go_wp2_with fail
    clear k8x0 k8x1 k8y0 k8y1
    refine (zmul (K := 4) (R7.z 3 rfl) (R7.z 2 rfl) (by decide) (by decide) (by decide)).mono ?_
    rintro e w8 ⟨b_p, A_p, n_p, rfl, z_p, hb8⟩
    have R8 := ((R7.below hb8).add z_p)
    go_wp2_with fail
    refine (zsmall (R8.z 0 rfl) (by decide)).mono ?_
    rintro e w9 ⟨rfl, hb9⟩
    have R9 := (R8.below hb9)
    rw [Int.mul_zero, S0.out.1, S0.out.2]
    have k10x0 := R9.cell 1 0 rfl rfl
    have k10x1 := R9.cell 1 1 rfl rfl
    have k10y0 := R9.cell 0 0 rfl rfl
    have k10y1 := R9.cell 0 1 rfl rfl
    go_wp2_with fail
    clear k10x0 k10x1 k10y0 k10y1
    refine (zdiv_zero (R9.z 4 rfl) (R9.z 3 rfl) (by decide) (by decide) rfl).mono ?_
    rintro e w10 ⟨rfl, hb10⟩
    have R10 := (R9.below hb10)
    have RZq := (R10.add (ZIs.nil_ _ none 0 0)).alloc 24 #[.bool false, .slice none 0 0] (g := w10.heap.size) rfl rfl
    have RZr := (RZq.add (ZIs.nil_ _ none 0 0)).alloc 24 #[.bool false, .slice none 0 0] (g := w10.heap.size + 1) (by simp) rfl
    go_wp2_with fail
    go_ret
    exact ⟨rfl, RZr.bel⟩
  · have hab : -4611686018427387904 ≤ a * b ∧ a * b ≤ 4611686018427387904 := prod31 ha hb
    obtain ⟨ab, hab2⟩ : ∃ ab, a * b = ab := ⟨_, rfl⟩
    rw [hab2] at hab
    have c3 : wrap64 (a + b) = a + b := IntWalk.wrap64_in _ (by omega)
    have c4 : wrap64 (a - b) = a - b := IntWalk.wrap64_in _ (by omega)
    have c5 : wrap64 ab = ab := IntWalk.wrap64_in _ (by omega)
    have s1 := zin_yes (x := a + b) (by omega) (by omega)
    have s2 := zin_yes (x := a - b) (by omega) (by omega)
    have s3 := zin_yes (x := ab) (by omega) (by omega)
    have S1 := Lib.hid s1
    have S2 := Lib.hid s2
    have S3 := Lib.hid s3
    have hbi : (b == 0) = false := by simpa using hz0
    have hbn : (b != 0) = true := by simpa using hz0
    clear s1 s2 s3 hab ha hb
    go_enter Tryd.func7, Tryd.ntmps7
    go_wp2_with fail
    refine (wawake_any _).mono ?_
    rintro e w1 ⟨rfl, hb1⟩
    have R1 := (R0.below hb1)
    go_wp2_with fail
    refine (of1 _).mono ?_
    rintro e w2 ⟨b_x, A_x, n_x, rfl, z_x, hb2⟩
    have R2 := (((R1.below hb2).add z_x).alloc 24 #[.bool b_x, .slice A_x n_x n_x] (g := w2.heap.size) rfl rfl)
    go_wp2_with fail
    refine (of2 _).mono ?_
    rintro e w3 ⟨b_y, A_y, n_y, rfl, z_y, hb3⟩
    have R3 := (((R2.below hb3).add z_y).alloc 24 #[.bool b_y, .slice A_y n_y n_y] (g := w3.heap.size) rfl rfl)
    have k4x0 := R3.cell 1 0 rfl rfl
    have k4x1 := R3.cell 1 1 rfl rfl
    have k4y0 := R3.cell 0 0 rfl rfl
    have k4y1 := R3.cell 0 1 rfl rfl
    go_wp2_with fail
    clear k4x0 k4x1 k4y0 k4y1
    refine (zadd (K := 3) (R3.z 1 rfl) (R3.z 0 rfl) (by decide) (by decide) (by decide)).mono ?_
    rintro e w4 ⟨b_s, A_s, n_s, rfl, z_s, hb4⟩
    have R4 := ((R3.below hb4).add z_s)
    go_wp2_with fail
    refine (zsmall (R4.z 0 rfl) (by decide)).mono ?_
    rintro e w5 ⟨rfl, hb5⟩
    have R5 := (R4.below hb5)
    rw [S1.out.1, S1.out.2]
    have k6x0 := R5.cell 1 0 rfl rfl
    have k6x1 := R5.cell 1 1 rfl rfl
    have k6y0 := R5.cell 0 0 rfl rfl
    have k6y1 := R5.cell 0 1 rfl rfl
    go_wp2_with fail
    clear k6x0 k6x1 k6y0 k6y1
    refine (zsub (K := 3) (R5.z 2 rfl) (R5.z 1 rfl) (by decide) (by decide) (by decide)).mono ?_
    rintro e w6 ⟨b_d, A_d, n_d, rfl, z_d, hb6⟩
    have R6 := ((R5.below hb6).add z_d)
    go_wp2_with fail
    refine (zsmall (R6.z 0 rfl) (by decide)).mono ?_
    rintro e w7 ⟨rfl, hb7⟩
    have R7 := (R6.below hb7)
    rw [S2.out.1, S2.out.2]
    have k8x0 := R7.cell 1 0 rfl rfl
    have k8x1 := R7.cell 1 1 rfl rfl
    have k8y0 := R7.cell 0 0 rfl rfl
    have k8y1 := R7.cell 0 1 rfl rfl
    go_wp2_with fail
    clear k8x0 k8x1 k8y0 k8y1
    refine (zmul (K := 4) (R7.z 3 rfl) (R7.z 2 rfl) (by decide) (by decide) (by decide)).mono ?_
    rintro e w8 ⟨b_p, A_p, n_p, rfl, z_p, hb8⟩
    have R8 := ((R7.below hb8).add z_p)
    go_wp2_with fail
    refine (zsmall (R8.z 0 rfl) (by decide)).mono ?_
    rintro e w9 ⟨rfl, hb9⟩
    have R9 := (R8.below hb9)
    rw [hab2, S3.out.1, S3.out.2]
    have k10x0 := R9.cell 1 0 rfl rfl
    have k10x1 := R9.cell 1 1 rfl rfl
    have k10y0 := R9.cell 0 0 rfl rfl
    have k10y1 := R9.cell 0 1 rfl rfl
    go_wp2_with fail
    clear k10x0 k10x1 k10y0 k10y1
    refine (zdiv (K := 5) (L := 3) (R9.z 4 rfl) (R9.z 3 rfl) (by decide) (by decide) hz0 (by decide) (by decide)).mono ?_
    rintro e w10 ⟨b_q, A_q, n_q, b_r, A_r, n_r, rfl, z_q, z_r, hb10⟩
    have R10 := (((((R9.below hb10).add z_q).add z_r).alloc 24 #[.bool b_q, .slice A_q n_q n_q] (g := w10.heap.size) rfl rfl).alloc 24 #[.bool b_r, .slice A_r n_r n_r] (g := w10.heap.size + 1) (by simp) rfl)
    have HW := Lib.hid (wdiv_tdiv a b)
    have hd := wdiv31 HAA.out HBB.out hz0
    have hm : wdiv a b * b = a - wmod a b := by have := wdiv_add a b; omega
    obtain ⟨q, hq⟩ : ∃ q, wdiv a b = q := ⟨_, rfl⟩
    obtain ⟨r, hr⟩ : ∃ r, wmod a b = r := ⟨_, rfl⟩
    obtain ⟨t, ht⟩ : ∃ t, Int.tdiv a b = t := ⟨_, rfl⟩
    have hw := HW.out
    rw [hq, ht] at hw
    rw [hq, hr, ht] at hd
    rw [hq, hr] at hm
    obtain ⟨tb, htb⟩ : ∃ tb, t * b = tb := ⟨_, rfl⟩
    obtain ⟨qb, hqb⟩ : ∃ qb, q * b = qb := ⟨_, rfl⟩
    rw [htb] at hw hd
    rw [hqb] at hm
    obtain ⟨d1, d2, d3, d4⟩ := hd
    have sq := zin_yes (x := q) (by omega) (by omega)
    have sr := zin_yes (x := r) (by omega) (by omega)
    have SQ := Lib.hid sq
    have SR := Lib.hid sr
    have c8 : wrap64 tb = tb := IntWalk.wrap64_in _ (by omega)
    have c9 : wrap64 qb = qb := by refine IntWalk.wrap64_in _ ?_; have := HAA.out; omega
    have ca : wrap64 (a - qb) = r := by refine (IntWalk.wrap64_in _ ?_).trans ?_ <;> omega
    have HWW := Lib.hid hw
    have HT := Lib.hid ht
    have HQ := Lib.hid hq
    have HR := Lib.hid hr
    have HM := Lib.hid hm
    clear hq hr sq sr HW hw hm d2 d4
    by_cases h1 : tb = a
    · have e1 : (tb == a) = true := by simpa using h1
      obtain rfl : q = t := HWW.out.2 (fun ⟨h, _⟩ => h h1)
      obtain rfl : tb = qb := by rw [← htb, ← hqb]
      clear htb
      obtain rfl : r = 0 := by have := HM.out; omega
      obtain rfl : tb = a := h1
      clear e1 ca
      have c6 : wrap64 q = q := IntWalk.wrap64_in _ (by omega)
      clear hbi
      have k11q0 := R10.cell 1 0 rfl rfl
      have k11q1 := R10.cell 1 1 rfl rfl
      go_wp2_with fail
      clear k11q0 k11q1
      refine (zsmall (R10.z 1 rfl) (by decide)).mono ?_
      rintro e w11 ⟨rfl, hb11⟩
      have R11 := (R10.below hb11)
      rw [HQ.out, SQ.out.1, SQ.out.2]
      have k12r0 := R11.cell 0 0 rfl rfl
      have k12r1 := R11.cell 0 1 rfl rfl
      go_wp2_with fail
      clear k12r0 k12r1
      refine (zsmall (R11.z 0 rfl) (by decide)).mono ?_
      rintro e w12 ⟨rfl, hb12⟩
      have R12 := (R11.below hb12)
      rw [HR.out, SR.out.1, SR.out.2]
      go_wp2_with fail
      go_ret
      exact ⟨rfl, R12.bel⟩
    have e1 : (tb == a) = false := by simpa using h1
    have e1b : (tb != a) = true := by simpa using h1
    by_cases h2 : decide (a < 0) = decide (b < 0)
    · have e2 : (decide (a < 0) == decide (b < 0)) = true := by simpa using h2
      obtain rfl : q = t := HWW.out.2 (fun ⟨_, h⟩ => h h2)
      obtain rfl : tb = qb := by rw [← htb, ← hqb]
      clear htb
      have c6 : wrap64 q = q := IntWalk.wrap64_in _ (by omega)
      clear h1 h2
      have k11q0 := R10.cell 1 0 rfl rfl
      have k11q1 := R10.cell 1 1 rfl rfl
      go_wp2_with fail
      clear k11q0 k11q1
      refine (zsmall (R10.z 1 rfl) (by decide)).mono ?_
      rintro e w11 ⟨rfl, hb11⟩
      have R11 := (R10.below hb11)
      rw [HQ.out, SQ.out.1, SQ.out.2]
      have k12r0 := R11.cell 0 0 rfl rfl
      have k12r1 := R11.cell 0 1 rfl rfl
      go_wp2_with fail
      clear k12r0 k12r1
      refine (zsmall (R11.z 0 rfl) (by decide)).mono ?_
      rintro e w12 ⟨rfl, hb12⟩
      have R12 := (R11.below hb12)
      rw [HR.out, SR.out.1, SR.out.2]
      go_wp2_with fail
      go_ret
      exact ⟨rfl, R12.bel⟩
    · have e2 : (decide (a < 0) == decide (b < 0)) = false := by simpa using h2
      have hqt : q = t - 1 := HWW.out.1 ⟨h1, h2⟩
      have hqt2 : t - 1 = q := hqt.symm
      have e2b : (decide (a < 0) != decide (b < 0)) = true := by simpa using h2
      have c6 : wrap64 t = t := IntWalk.wrap64_in _ (by omega)
      have c7 : wrap64 (t - 1) = q := by refine (IntWalk.wrap64_in _ ?_).trans ?_ <;> omega
      clear h1 h2 hqt
      have k11q0 := R10.cell 1 0 rfl rfl
      have k11q1 := R10.cell 1 1 rfl rfl
      go_wp2_with fail
      clear k11q0 k11q1
      refine (zsmall (R10.z 1 rfl) (by decide)).mono ?_
      rintro e w11 ⟨rfl, hb11⟩
      have R11 := (R10.below hb11)
      rw [HQ.out, SQ.out.1, SQ.out.2]
      have k12r0 := R11.cell 0 0 rfl rfl
      have k12r1 := R11.cell 0 1 rfl rfl
      go_wp2_with fail
      clear k12r0 k12r1
      refine (zsmall (R11.z 0 rfl) (by decide)).mono ?_
      rintro e w12 ⟨rfl, hb12⟩
      have R12 := (R11.below hb12)
      rw [HR.out, SR.out.1, SR.out.2]
      go_wp2_with fail
      go_ret
      exact ⟨rfl, R12.bel⟩
end Go.Proofs.YtodgchflhimjfaaDoor
