/- WholeOrder: sums and products keep an order, or turn it. No condition. -/
import Derived.Test.YtodgchflhimjfaaDoorGP
namespace Go.Proofs.YtodgchflhimjfaaDoor
open Go.RowKit

theorem zcmp_add (x y c : Int) : zcmp (x + c) (y + c) = zcmp x y := by
  rcases Int.lt_trichotomy x y with h | h | h
  · rw [zcmp_lt h, zcmp_lt (by omega)]
  · rw [h, zcmp_eq, zcmp_eq]
  · rw [zcmp_gt h, zcmp_gt (by omega)]
theorem zcmp_mul (x y c : Int) : zcmp (x * c) (y * c) = zcmp x y * zcmp c 0 := by
  rcases Int.lt_trichotomy c 0 with hc | hc | hc
  · rw [zcmp_lt hc]
    rcases Int.lt_trichotomy x y with h | h | h
    · rw [zcmp_lt h, zcmp_gt (Int.mul_lt_mul_of_neg_right h hc)]; rfl
    · rw [h, zcmp_eq, zcmp_eq]; rfl
    · rw [zcmp_gt h, zcmp_lt (Int.mul_lt_mul_of_neg_right h hc)]; rfl
  · rw [hc, Int.mul_zero, Int.mul_zero, zcmp_eq, Int.mul_zero]
  · rw [zcmp_gt hc, Int.mul_one]
    rcases Int.lt_trichotomy x y with h | h | h
    · rw [zcmp_lt h, zcmp_lt (Int.mul_lt_mul_of_pos_right h hc)]
    · rw [h, zcmp_eq, zcmp_eq]
    · rw [zcmp_gt h, zcmp_gt (Int.mul_lt_mul_of_pos_right h hc)]
set_option maxRecDepth 100000 in
set_option maxHeartbeats 6400000 in
theorem wholeOrder_any (ba : Bool) (Aa : Option Addr) (na ca : Nat) (la : List Nat) (bb : Bool) (Ab : Option Addr) (nb cb : Nat) (lb : List Nat) (bc : Bool) (Ac : Option Addr) (nc cc : Nat) (lc : List Nat) (w : World) (hra : Lim w Aa na ca la) (hna : na ≤ maxLen) (hrb : Lim w Ab nb cb lb) (hnb : nb ≤ maxLen) (hrc : Lim w Ac nc cc lc) (hnc : nc ≤ maxLen) :
    Calls Tryd.prog 6 #[.agg #[.bool ba, .slice Aa na ca], .agg #[.bool bb, .slice Ab nb cb], .agg #[.bool bc, .slice Ac nc cc]] w fun e w' => e = .returned (.bool true) ∧ Below w.heap.size w w' := by
  unfold maxLen at hna
  unfold maxLen at hnb
  unfold maxLen at hnc
  by_cases ha : 14 < na
  · have R0 := (((((((Env.nil_ w).add (ZIs.of_lim (b := ba) (k := na) hra (Nat.le_refl _))).add (ZIs.of_lim (b := bb) (k := nb) hrb (Nat.le_refl _))).add (ZIs.of_lim (b := bc) (k := nc) hrc (Nat.le_refl _))).alloc 24 #[.bool ba, .slice Aa na ca] (g := w.heap.size) rfl rfl).alloc 24 #[.bool bb, .slice Ab nb cb] (g := w.heap.size + 1) (by simp) rfl).alloc 24 #[.bool bc, .slice Ac nc cc] (g := w.heap.size + 1 + 1) (by simp) rfl)
    go_enter Tryd.func6, Tryd.ntmps6
    go_wp2_with fail
    refine (wawake_any _).mono ?_
    rintro e w1 ⟨rfl, hb1⟩
    have R1 := (R0.below hb1)
    have k2a0 := R1.cell 2 0 rfl rfl
    have k2a1 := R1.cell 2 1 rfl rfl
    go_wp2_with fail
    clear k2a0 k2a1
    refine (zfew_no (by omega)).mono ?_
    rintro e w2 ⟨rfl, hb2⟩
    have R2 := (R1.below hb2)
    have ka0 := R2.cell 2 0 rfl rfl
    have ka1 := R2.cell 2 1 rfl rfl
    have kb0 := R2.cell 1 0 rfl rfl
    have kb1 := R2.cell 1 1 rfl rfl
    have kc0 := R2.cell 0 0 rfl rfl
    have kc1 := R2.cell 0 1 rfl rfl
    go_wp2_with fail
    go_ret
    exact ⟨rfl, R2.bel⟩
  by_cases hb : 14 < nb
  · have R0 := (((((((Env.nil_ w).add (ZIs.of_lim (b := ba) (k := na) hra (Nat.le_refl _))).add (ZIs.of_lim (b := bb) (k := nb) hrb (Nat.le_refl _))).add (ZIs.of_lim (b := bc) (k := nc) hrc (Nat.le_refl _))).alloc 24 #[.bool ba, .slice Aa na ca] (g := w.heap.size) rfl rfl).alloc 24 #[.bool bb, .slice Ab nb cb] (g := w.heap.size + 1) (by simp) rfl).alloc 24 #[.bool bc, .slice Ac nc cc] (g := w.heap.size + 1 + 1) (by simp) rfl)
    go_enter Tryd.func6, Tryd.ntmps6
    go_wp2_with fail
    refine (wawake_any _).mono ?_
    rintro e w1 ⟨rfl, hb1⟩
    have R1 := (R0.below hb1)
    have k2a0 := R1.cell 2 0 rfl rfl
    have k2a1 := R1.cell 2 1 rfl rfl
    go_wp2_with fail
    clear k2a0 k2a1
    refine (zfew_yes (by omega)).mono ?_
    rintro e w2 ⟨rfl, hb2⟩
    have R2 := (R1.below hb2)
    have k3b0 := R2.cell 1 0 rfl rfl
    have k3b1 := R2.cell 1 1 rfl rfl
    go_wp2_with fail
    clear k3b0 k3b1
    refine (zfew_no (by omega)).mono ?_
    rintro e w3 ⟨rfl, hb3⟩
    have R3 := (R2.below hb3)
    have ka0 := R3.cell 2 0 rfl rfl
    have ka1 := R3.cell 2 1 rfl rfl
    have kb0 := R3.cell 1 0 rfl rfl
    have kb1 := R3.cell 1 1 rfl rfl
    have kc0 := R3.cell 0 0 rfl rfl
    have kc1 := R3.cell 0 1 rfl rfl
    go_wp2_with fail
    go_ret
    exact ⟨rfl, R3.bel⟩
  by_cases hc : 14 < nc
  · have R0 := (((((((Env.nil_ w).add (ZIs.of_lim (b := ba) (k := na) hra (Nat.le_refl _))).add (ZIs.of_lim (b := bb) (k := nb) hrb (Nat.le_refl _))).add (ZIs.of_lim (b := bc) (k := nc) hrc (Nat.le_refl _))).alloc 24 #[.bool ba, .slice Aa na ca] (g := w.heap.size) rfl rfl).alloc 24 #[.bool bb, .slice Ab nb cb] (g := w.heap.size + 1) (by simp) rfl).alloc 24 #[.bool bc, .slice Ac nc cc] (g := w.heap.size + 1 + 1) (by simp) rfl)
    go_enter Tryd.func6, Tryd.ntmps6
    go_wp2_with fail
    refine (wawake_any _).mono ?_
    rintro e w1 ⟨rfl, hb1⟩
    have R1 := (R0.below hb1)
    have k2a0 := R1.cell 2 0 rfl rfl
    have k2a1 := R1.cell 2 1 rfl rfl
    go_wp2_with fail
    clear k2a0 k2a1
    refine (zfew_yes (by omega)).mono ?_
    rintro e w2 ⟨rfl, hb2⟩
    have R2 := (R1.below hb2)
    have k3b0 := R2.cell 1 0 rfl rfl
    have k3b1 := R2.cell 1 1 rfl rfl
    go_wp2_with fail
    clear k3b0 k3b1
    refine (zfew_yes (by omega)).mono ?_
    rintro e w3 ⟨rfl, hb3⟩
    have R3 := (R2.below hb3)
    have k4c0 := R3.cell 0 0 rfl rfl
    have k4c1 := R3.cell 0 1 rfl rfl
    go_wp2_with fail
    clear k4c0 k4c1
    refine (zfew_no (by omega)).mono ?_
    rintro e w4 ⟨rfl, hb4⟩
    have R4 := (R3.below hb4)
    have ka0 := R4.cell 2 0 rfl rfl
    have ka1 := R4.cell 2 1 rfl rfl
    have kb0 := R4.cell 1 0 rfl rfl
    have kb1 := R4.cell 1 1 rfl rfl
    have kc0 := R4.cell 0 0 rfl rfl
    have kc1 := R4.cell 0 1 rfl rfl
    go_wp2_with fail
    go_ret
    exact ⟨rfl, R4.bel⟩
  have R0 := (((((((Env.nil_ w).add (ZIs.of_lim (b := ba) (k := 14) hra (by omega))).add (ZIs.of_lim (b := bb) (k := 14) hrb (by omega))).add (ZIs.of_lim (b := bc) (k := 14) hrc (by omega))).alloc 24 #[.bool ba, .slice Aa na ca] (g := w.heap.size) rfl rfl).alloc 24 #[.bool bb, .slice Ab nb cb] (g := w.heap.size + 1) (by simp) rfl).alloc 24 #[.bool bc, .slice Ac nc cc] (g := w.heap.size + 1 + 1) (by simp) rfl)
  obtain ⟨za, hza⟩ : ∃ z, zv ba (vl la) = z := ⟨_, rfl⟩
  rw [hza] at R0
  clear hza hra
  obtain ⟨zb, hzb⟩ : ∃ z, zv bb (vl lb) = z := ⟨_, rfl⟩
  rw [hzb] at R0
  clear hzb hrb
  obtain ⟨zc, hzc⟩ : ∃ z, zv bc (vl lc) = z := ⟨_, rfl⟩
  rw [hzc] at R0
  clear hzc hrc
  go_enter Tryd.func6, Tryd.ntmps6
  go_wp2_with fail
  refine (wawake_any _).mono ?_
  rintro e w1 ⟨rfl, hb1⟩
  have R1 := (R0.below hb1)
  have k2a0 := R1.cell 2 0 rfl rfl
  have k2a1 := R1.cell 2 1 rfl rfl
  go_wp2_with fail
  clear k2a0 k2a1
  refine (zfew_yes (by omega)).mono ?_
  rintro e w2 ⟨rfl, hb2⟩
  have R2 := (R1.below hb2)
  have k3b0 := R2.cell 1 0 rfl rfl
  have k3b1 := R2.cell 1 1 rfl rfl
  go_wp2_with fail
  clear k3b0 k3b1
  refine (zfew_yes (by omega)).mono ?_
  rintro e w3 ⟨rfl, hb3⟩
  have R3 := (R2.below hb3)
  have k4c0 := R3.cell 0 0 rfl rfl
  have k4c1 := R3.cell 0 1 rfl rfl
  go_wp2_with fail
  clear k4c0 k4c1
  refine (zfew_yes (by omega)).mono ?_
  rintro e w4 ⟨rfl, hb4⟩
  have R4 := (R3.below hb4)
  obtain ⟨u1, hu1⟩ : ∃ u, zcmp za zb = u := ⟨_, rfl⟩
  obtain ⟨u2, hu2⟩ : ∃ u, zcmp zc 0 = u := ⟨_, rfl⟩
  have hu3 : zcmp (za + zc) (zb + zc) = u1 := by rw [zcmp_add, hu1]
  have hu4 : zcmp (za * zc) (zb * zc) = u1 * u2 := by rw [zcmp_mul, hu1, hu2]
  have hr1 := zcmp_range za zb
  have hr2 := zcmp_range zc 0
  rw [hu1] at hr1
  rw [hu2] at hr2
  have HU1 := Lib.hid hu1
  have HU2 := Lib.hid hu2
  have HU3 := Lib.hid hu3
  have HU4 := Lib.hid hu4
  have e1 : IntKind.i64.wrap (u1 * u2) = u1 * u2 := IntWalk.i64_in _ (by rcases hr1 with rfl | rfl | rfl <;> rcases hr2 with rfl | rfl | rfl <;> decide)
  clear hu1 hu2 hu3 hu4 hr1 hr2
  have k5a0 := R4.cell 2 0 rfl rfl
  have k5a1 := R4.cell 2 1 rfl rfl
  have k5b0 := R4.cell 1 0 rfl rfl
  have k5b1 := R4.cell 1 1 rfl rfl
  go_wp2_with fail
  clear k5a0 k5a1 k5b0 k5b1
  refine (zcmp_is (R4.z 2 rfl) (R4.z 1 rfl) (by decide) (by decide) u1 HU1.out).mono ?_
  rintro e w5 ⟨rfl, hb5⟩
  have R5 := (R4.below hb5)
  have RZ := R5.add (ZIs.nil_ _ none 0 0)
  have k6c0 := RZ.cell 0 0 rfl rfl
  have k6c1 := RZ.cell 0 1 rfl rfl
  go_wp2_with fail
  clear k6c0 k6c1
  refine (zcmp_is (RZ.z 1 rfl) (RZ.z 0 rfl) (by decide) (by decide) u2 HU2.out).mono ?_
  rintro e w6 ⟨rfl, hb6⟩
  have R6 := (RZ.below hb6)
  go_wp2_with fail
  have D7 := R6.drew
  have s7 := And.intro (D7.cell 2 0 rfl rfl) (And.intro (D7.cell 2 1 rfl rfl) (And.intro (D7.cell 1 0 rfl rfl) (And.intro (D7.cell 1 1 rfl rfl) (And.intro (D7.cell 0 0 rfl rfl) (D7.cell 0 1 rfl rfl)))))
  go_region_held3 (fun w' => w'.cell? ⟨w.heap.size, 0, none⟩ = some (.bool ba) ∧ w'.cell? ⟨w.heap.size, 1, none⟩ = some (.slice Aa na ca) ∧ w'.cell? ⟨w.heap.size + 1, 0, none⟩ = some (.bool bb) ∧ w'.cell? ⟨w.heap.size + 1, 1, none⟩ = some (.slice Ab nb cb) ∧ w'.cell? ⟨w.heap.size + 1 + 1, 0, none⟩ = some (.bool bc) ∧ w'.cell? ⟨w.heap.size + 1 + 1, 1, none⟩ = some (.slice Ac nc cc))
    (with_reducible assumption)
    ((first
      | (go_at_call 18; show Calls _ _ _ w13 _; refine (rzcmp_is (R13.z 7 rfl) (R13.z 6 rfl) (by decide) (by decide) u1 HU1.out).mono ?_; rintro e w14 ⟨rfl, hb14⟩; have R14 := (R13.below hb14); have s14 := And.intro (R14.cell 2 0 rfl rfl) (And.intro (R14.cell 2 1 rfl rfl) (And.intro (R14.cell 1 0 rfl rfl) (And.intro (R14.cell 1 1 rfl rfl) (And.intro (R14.cell 0 0 rfl rfl) (R14.cell 0 1 rfl rfl))))))
      | (go_at_call 17; show Calls _ _ _ w12 _; refine (zcmp_is (R12.z 1 rfl) (R12.z 0 rfl) (by decide) (by decide) (u1 * u2) HU4.out).mono ?_; rintro e w13 ⟨rfl, hb13⟩; have R13 := (R12.below hb13); have s13 := And.intro (R13.cell 2 0 rfl rfl) (And.intro (R13.cell 2 1 rfl rfl) (And.intro (R13.cell 1 0 rfl rfl) (And.intro (R13.cell 1 1 rfl rfl) (And.intro (R13.cell 0 0 rfl rfl) (R13.cell 0 1 rfl rfl))))))
      | (go_at_call 23; show Calls _ _ _ w11 _; refine (zmul (K := 28) (R11.z 5 rfl) (R11.z 4 rfl) (by decide) (by decide) (by decide)).mono ?_; rintro e w12 ⟨b_s4, A_s4, n_s4, rfl, z_s4, hb12⟩; have R12 := ((R11.below hb12).add z_s4); have s12 := And.intro (R12.cell 2 0 rfl rfl) (And.intro (R12.cell 2 1 rfl rfl) (And.intro (R12.cell 1 0 rfl rfl) (And.intro (R12.cell 1 1 rfl rfl) (And.intro (R12.cell 0 0 rfl rfl) (R12.cell 0 1 rfl rfl))))))
      | (go_at_call 23; show Calls _ _ _ w10 _; refine (zmul (K := 28) (R10.z 5 rfl) (R10.z 3 rfl) (by decide) (by decide) (by decide)).mono ?_; rintro e w11 ⟨b_s3, A_s3, n_s3, rfl, z_s3, hb11⟩; have R11 := ((R10.below hb11).add z_s3); have s11 := And.intro (R11.cell 2 0 rfl rfl) (And.intro (R11.cell 2 1 rfl rfl) (And.intro (R11.cell 1 0 rfl rfl) (And.intro (R11.cell 1 1 rfl rfl) (And.intro (R11.cell 0 0 rfl rfl) (R11.cell 0 1 rfl rfl))))))
      | (go_at_call 17; show Calls _ _ _ w9 _; refine (zcmp_is (R9.z 1 rfl) (R9.z 0 rfl) (by decide) (by decide) u1 HU3.out).mono ?_; rintro e w10 ⟨rfl, hb10⟩; have R10 := (R9.below hb10); have s10 := And.intro (R10.cell 2 0 rfl rfl) (And.intro (R10.cell 2 1 rfl rfl) (And.intro (R10.cell 1 0 rfl rfl) (And.intro (R10.cell 1 1 rfl rfl) (And.intro (R10.cell 0 0 rfl rfl) (R10.cell 0 1 rfl rfl))))))
      | (go_at_call 19; show Calls _ _ _ w8 _; refine (zadd (K := 15) (R8.z 3 rfl) (R8.z 2 rfl) (by decide) (by decide) (by decide)).mono ?_; rintro e w9 ⟨b_s2, A_s2, n_s2, rfl, z_s2, hb9⟩; have R9 := ((R8.below hb9).add z_s2); have s9 := And.intro (R9.cell 2 0 rfl rfl) (And.intro (R9.cell 2 1 rfl rfl) (And.intro (R9.cell 1 0 rfl rfl) (And.intro (R9.cell 1 1 rfl rfl) (And.intro (R9.cell 0 0 rfl rfl) (R9.cell 0 1 rfl rfl))))))
      | (go_at_call 19; refine (zadd (K := 15) (D7.z 3 rfl) (D7.z 1 rfl) (by decide) (by decide) (by decide)).mono ?_; rintro e w8 ⟨b_s1, A_s1, n_s1, rfl, z_s1, hb8⟩; have R8 := ((D7.below hb8).add z_s1); have s8 := And.intro (R8.cell 2 0 rfl rfl) (And.intro (R8.cell 2 1 rfl rfl) (And.intro (R8.cell 1 0 rfl rfl) (And.intro (R8.cell 1 1 rfl rfl) (And.intro (R8.cell 0 0 rfl rfl) (R8.cell 0 1 rfl rfl))))))))
  go_wp2_with fail
  go_ret
  exact ⟨rfl, R14.bel⟩
end Go.Proofs.YtodgchflhimjfaaDoor
