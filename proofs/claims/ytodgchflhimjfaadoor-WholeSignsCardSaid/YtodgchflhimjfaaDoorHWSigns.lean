/- WholeSigns: a number and its opposite; signs of products. No condition. -/
import Derived.Test.YtodgchflhimjfaaDoorGP
namespace Go.Proofs.YtodgchflhimjfaaDoor
open Go.RowKit

set_option maxRecDepth 100000 in
set_option maxHeartbeats 6400000 in
theorem wholeSigns_any (ba : Bool) (Aa : Option Addr) (na ca : Nat) (la : List Nat) (bb : Bool) (Ab : Option Addr) (nb cb : Nat) (lb : List Nat) (w : World) (hra : Lim w Aa na ca la) (hna : na ≤ maxLen) (hrb : Lim w Ab nb cb lb) (hnb : nb ≤ maxLen) :
    Calls Tryd.prog 5 #[.agg #[.bool ba, .slice Aa na ca], .agg #[.bool bb, .slice Ab nb cb]] w fun e w' => e = .returned (.bool true) ∧ Below w.heap.size w w' := by
  unfold maxLen at hna
  unfold maxLen at hnb
  by_cases ha : 14 < na
  · have R0 := (((((Env.nil_ w).add (ZIs.of_lim (b := ba) (k := na) hra (Nat.le_refl _))).add (ZIs.of_lim (b := bb) (k := nb) hrb (Nat.le_refl _))).alloc 24 #[.bool ba, .slice Aa na ca] (g := w.heap.size) rfl rfl).alloc 24 #[.bool bb, .slice Ab nb cb] (g := w.heap.size + 1) (by simp) rfl)
    go_enter Tryd.func5, Tryd.ntmps5
    go_wp2_with fail
    refine (wawake_any _).mono ?_
    rintro e w1 ⟨rfl, hb1⟩
    have R1 := (R0.below hb1)
    have k2a0 := R1.cell 1 0 rfl rfl
    have k2a1 := R1.cell 1 1 rfl rfl
    go_wp2_with fail
    clear k2a0 k2a1
    refine (zfew_no (by omega)).mono ?_
    rintro e w2 ⟨rfl, hb2⟩
    have R2 := (R1.below hb2)
    have ka0 := R2.cell 1 0 rfl rfl
    have ka1 := R2.cell 1 1 rfl rfl
    have kb0 := R2.cell 0 0 rfl rfl
    have kb1 := R2.cell 0 1 rfl rfl
    go_wp2_with fail
    go_ret
    exact ⟨rfl, R2.bel⟩
  by_cases hb : 14 < nb
  · have R0 := (((((Env.nil_ w).add (ZIs.of_lim (b := ba) (k := na) hra (Nat.le_refl _))).add (ZIs.of_lim (b := bb) (k := nb) hrb (Nat.le_refl _))).alloc 24 #[.bool ba, .slice Aa na ca] (g := w.heap.size) rfl rfl).alloc 24 #[.bool bb, .slice Ab nb cb] (g := w.heap.size + 1) (by simp) rfl)
    go_enter Tryd.func5, Tryd.ntmps5
    go_wp2_with fail
    refine (wawake_any _).mono ?_
    rintro e w1 ⟨rfl, hb1⟩
    have R1 := (R0.below hb1)
    have k2a0 := R1.cell 1 0 rfl rfl
    have k2a1 := R1.cell 1 1 rfl rfl
    go_wp2_with fail
    clear k2a0 k2a1
    refine (zfew_yes (by omega)).mono ?_
    rintro e w2 ⟨rfl, hb2⟩
    have R2 := (R1.below hb2)
    have k3b0 := R2.cell 0 0 rfl rfl
    have k3b1 := R2.cell 0 1 rfl rfl
    go_wp2_with fail
    clear k3b0 k3b1
    refine (zfew_no (by omega)).mono ?_
    rintro e w3 ⟨rfl, hb3⟩
    have R3 := (R2.below hb3)
    have ka0 := R3.cell 1 0 rfl rfl
    have ka1 := R3.cell 1 1 rfl rfl
    have kb0 := R3.cell 0 0 rfl rfl
    have kb1 := R3.cell 0 1 rfl rfl
    go_wp2_with fail
    go_ret
    exact ⟨rfl, R3.bel⟩
  have R0 := (((((Env.nil_ w).add (ZIs.of_lim (b := ba) (k := 14) hra (by omega))).add (ZIs.of_lim (b := bb) (k := 14) hrb (by omega))).alloc 24 #[.bool ba, .slice Aa na ca] (g := w.heap.size) rfl rfl).alloc 24 #[.bool bb, .slice Ab nb cb] (g := w.heap.size + 1) (by simp) rfl)
  obtain ⟨za, hza⟩ : ∃ z, zv ba (vl la) = z := ⟨_, rfl⟩
  rw [hza] at R0
  clear hza hra
  obtain ⟨zb, hzb⟩ : ∃ z, zv bb (vl lb) = z := ⟨_, rfl⟩
  rw [hzb] at R0
  clear hzb hrb
  go_enter Tryd.func5, Tryd.ntmps5
  go_wp2_with fail
  refine (wawake_any _).mono ?_
  rintro e w1 ⟨rfl, hb1⟩
  have R1 := (R0.below hb1)
  have k2a0 := R1.cell 1 0 rfl rfl
  have k2a1 := R1.cell 1 1 rfl rfl
  go_wp2_with fail
  clear k2a0 k2a1
  refine (zfew_yes (by omega)).mono ?_
  rintro e w2 ⟨rfl, hb2⟩
  have R2 := (R1.below hb2)
  have k3b0 := R2.cell 0 0 rfl rfl
  have k3b1 := R2.cell 0 1 rfl rfl
  go_wp2_with fail
  clear k3b0 k3b1
  refine (zfew_yes (by omega)).mono ?_
  rintro e w3 ⟨rfl, hb3⟩
  have R3 := (R2.below hb3)
  have RZ := (R3.add (ZIs.nil_ _ none 0 0)).alloc 24 #[.bool false, .slice none 0 0] (g := w3.heap.size) rfl rfl
  have k4zero0 := RZ.cell 0 0 rfl rfl
  have k4zero1 := RZ.cell 0 1 rfl rfl
  have k4a0 := RZ.cell 2 0 rfl rfl
  have k4a1 := RZ.cell 2 1 rfl rfl
  go_wp2_with fail
  clear k4zero0 k4zero1 k4a0 k4a1
  refine (zsub (K := 15) (RZ.z 0 rfl) (RZ.z 2 rfl) (by decide) (by decide) (by decide)).mono ?_
  rintro e w4 ⟨b_m, A_m, n_m, rfl, z_m, hb4⟩
  have R4 := (((RZ.below hb4).add z_m).alloc 24 #[.bool b_m, .slice A_m n_m n_m] (g := w4.heap.size) rfl rfl)
  have k5a0 := R4.cell 3 0 rfl rfl
  have k5a1 := R4.cell 3 1 rfl rfl
  have k5b0 := R4.cell 2 0 rfl rfl
  have k5b1 := R4.cell 2 1 rfl rfl
  go_wp2_with fail
  clear k5a0 k5a1 k5b0 k5b1
  refine (zmul (K := 28) (R4.z 3 rfl) (R4.z 2 rfl) (by decide) (by decide) (by decide)).mono ?_
  rintro e w5 ⟨b_p, A_p, n_p, rfl, z_p, hb5⟩
  have R5 := (((R4.below hb5).add z_p).alloc 24 #[.bool b_p, .slice A_p n_p n_p] (g := w5.heap.size) rfl rfl)
  have k6m0 := R5.cell 1 0 rfl rfl
  have k6m1 := R5.cell 1 1 rfl rfl
  have k6b0 := R5.cell 3 0 rfl rfl
  have k6b1 := R5.cell 3 1 rfl rfl
  go_wp2_with fail
  clear k6m0 k6m1 k6b0 k6b1
  refine (zmul (K := 29) (R5.z 1 rfl) (R5.z 3 rfl) (by decide) (by decide) (by decide)).mono ?_
  rintro e w6 ⟨b_q, A_q, n_q, rfl, z_q, hb6⟩
  have R6 := (((R5.below hb6).add z_q).alloc 24 #[.bool b_q, .slice A_q n_q n_q] (g := w6.heap.size) rfl rfl)
  obtain ⟨u1, hu1⟩ : ∃ u, zcmp zb za = u := ⟨_, rfl⟩
  have hu2 : zcmp za zb = -u1 := by rw [zcmp_swap, hu1]
  obtain ⟨u3, hu3⟩ : ∃ u, zcmp za 0 = u := ⟨_, rfl⟩
  have hu4 : zcmp (0 - za) 0 = -u3 := by rw [Int.zero_sub, show (0 : Int) = -0 from rfl, zcmp_neg, zcmp_swap, hu3]
  have hr1 := zcmp_range zb za
  have hr3 := zcmp_range za 0
  rw [hu1] at hr1
  rw [hu3] at hr3
  have HU1 := Lib.hid hu1
  have HU2 := Lib.hid hu2
  have HU3 := Lib.hid hu3
  have HU4 := Lib.hid hu4
  have e1 : IntKind.i64.wrap (-u1) = -u1 := IntWalk.i64_in _ (by omega)
  have e3 : IntKind.i64.wrap (-u3) = -u3 := IntWalk.i64_in _ (by omega)
  clear hu1 hu2 hu3 hu4 hr1 hr3
  go_wp2_with fail
  have D7 := R6.drew
  have s7 := And.intro (D7.cell 5 0 rfl rfl) (And.intro (D7.cell 5 1 rfl rfl) (And.intro (D7.cell 4 0 rfl rfl) (And.intro (D7.cell 4 1 rfl rfl) (And.intro (D7.cell 3 0 rfl rfl) (And.intro (D7.cell 3 1 rfl rfl) (And.intro (D7.cell 2 0 rfl rfl) (And.intro (D7.cell 2 1 rfl rfl) (And.intro (D7.cell 1 0 rfl rfl) (And.intro (D7.cell 1 1 rfl rfl) (And.intro (D7.cell 0 0 rfl rfl) (D7.cell 0 1 rfl rfl)))))))))))
  go_region_held3 (fun w' => w'.cell? ⟨w.heap.size, 0, none⟩ = some (.bool ba) ∧ w'.cell? ⟨w.heap.size, 1, none⟩ = some (.slice Aa na ca) ∧ w'.cell? ⟨w.heap.size + 1, 0, none⟩ = some (.bool bb) ∧ w'.cell? ⟨w.heap.size + 1, 1, none⟩ = some (.slice Ab nb cb) ∧ w'.cell? ⟨w3.heap.size, 0, none⟩ = some (.bool false) ∧ w'.cell? ⟨w3.heap.size, 1, none⟩ = some (.slice none 0 0) ∧ w'.cell? ⟨w4.heap.size, 0, none⟩ = some (.bool b_m) ∧ w'.cell? ⟨w4.heap.size, 1, none⟩ = some (.slice A_m n_m n_m) ∧ w'.cell? ⟨w5.heap.size, 0, none⟩ = some (.bool b_p) ∧ w'.cell? ⟨w5.heap.size, 1, none⟩ = some (.slice A_p n_p n_p) ∧ w'.cell? ⟨w6.heap.size, 0, none⟩ = some (.bool b_q) ∧ w'.cell? ⟨w6.heap.size, 1, none⟩ = some (.slice A_q n_q n_q))
    (with_reducible assumption)
    ((first
      | (go_at_call 17; show Calls _ _ _ w17 _; refine (zcmp_is (R17.z 9 rfl) (R17.z 7 rfl) (by decide) (by decide) u3 HU3.out).mono ?_; rintro e w18 ⟨rfl, hb18⟩; have R18 := (R17.below hb18); have s18 := And.intro (R18.cell 5 0 rfl rfl) (And.intro (R18.cell 5 1 rfl rfl) (And.intro (R18.cell 4 0 rfl rfl) (And.intro (R18.cell 4 1 rfl rfl) (And.intro (R18.cell 3 0 rfl rfl) (And.intro (R18.cell 3 1 rfl rfl) (And.intro (R18.cell 2 0 rfl rfl) (And.intro (R18.cell 2 1 rfl rfl) (And.intro (R18.cell 1 0 rfl rfl) (And.intro (R18.cell 1 1 rfl rfl) (And.intro (R18.cell 0 0 rfl rfl) (R18.cell 0 1 rfl rfl))))))))))))
      | (go_at_call 17; show Calls _ _ _ w16 _; refine (zcmp_is (R16.z 6 rfl) (R16.z 7 rfl) (by decide) (by decide) (-u3) HU4.out).mono ?_; rintro e w17 ⟨rfl, hb17⟩; have R17 := (R16.below hb17); have s17 := And.intro (R17.cell 5 0 rfl rfl) (And.intro (R17.cell 5 1 rfl rfl) (And.intro (R17.cell 4 0 rfl rfl) (And.intro (R17.cell 4 1 rfl rfl) (And.intro (R17.cell 3 0 rfl rfl) (And.intro (R17.cell 3 1 rfl rfl) (And.intro (R17.cell 2 0 rfl rfl) (And.intro (R17.cell 2 1 rfl rfl) (And.intro (R17.cell 1 0 rfl rfl) (And.intro (R17.cell 1 1 rfl rfl) (And.intro (R17.cell 0 0 rfl rfl) (R17.cell 0 1 rfl rfl))))))))))))
      | (go_at_call 17; show Calls _ _ _ w15 _; refine (zcmp_is (R15.z 8 rfl) (R15.z 9 rfl) (by decide) (by decide) u1 HU1.out).mono ?_; rintro e w16 ⟨rfl, hb16⟩; have R16 := (R15.below hb16); have s16 := And.intro (R16.cell 5 0 rfl rfl) (And.intro (R16.cell 5 1 rfl rfl) (And.intro (R16.cell 4 0 rfl rfl) (And.intro (R16.cell 4 1 rfl rfl) (And.intro (R16.cell 3 0 rfl rfl) (And.intro (R16.cell 3 1 rfl rfl) (And.intro (R16.cell 2 0 rfl rfl) (And.intro (R16.cell 2 1 rfl rfl) (And.intro (R16.cell 1 0 rfl rfl) (And.intro (R16.cell 1 1 rfl rfl) (And.intro (R16.cell 0 0 rfl rfl) (R16.cell 0 1 rfl rfl))))))))))))
      | (go_at_call 17; show Calls _ _ _ w14 _; refine (zcmp_is (R14.z 9 rfl) (R14.z 8 rfl) (by decide) (by decide) (-u1) HU2.out).mono ?_; rintro e w15 ⟨rfl, hb15⟩; have R15 := (R14.below hb15); have s15 := And.intro (R15.cell 5 0 rfl rfl) (And.intro (R15.cell 5 1 rfl rfl) (And.intro (R15.cell 4 0 rfl rfl) (And.intro (R15.cell 4 1 rfl rfl) (And.intro (R15.cell 3 0 rfl rfl) (And.intro (R15.cell 3 1 rfl rfl) (And.intro (R15.cell 2 0 rfl rfl) (And.intro (R15.cell 2 1 rfl rfl) (And.intro (R15.cell 1 0 rfl rfl) (And.intro (R15.cell 1 1 rfl rfl) (And.intro (R15.cell 0 0 rfl rfl) (R15.cell 0 1 rfl rfl))))))))))))
      | (go_at_call 14; show Calls _ _ _ w13 _; refine (zsame_true (R13.z 0 rfl) (R13.z 4 rfl) (by decide) (by decide) (by rw [Int.zero_sub, Int.zero_sub, Int.neg_mul])).mono ?_; rintro e w14 ⟨rfl, hb14⟩; have R14 := (R13.below hb14); have s14 := And.intro (R14.cell 5 0 rfl rfl) (And.intro (R14.cell 5 1 rfl rfl) (And.intro (R14.cell 4 0 rfl rfl) (And.intro (R14.cell 4 1 rfl rfl) (And.intro (R14.cell 3 0 rfl rfl) (And.intro (R14.cell 3 1 rfl rfl) (And.intro (R14.cell 2 0 rfl rfl) (And.intro (R14.cell 2 1 rfl rfl) (And.intro (R14.cell 1 0 rfl rfl) (And.intro (R14.cell 1 1 rfl rfl) (And.intro (R14.cell 0 0 rfl rfl) (R14.cell 0 1 rfl rfl))))))))))))
      | (go_at_call 21; show Calls _ _ _ w12 _; refine (zsub (K := 29) (R12.z 6 rfl) (R12.z 4 rfl) (by decide) (by decide) (by decide)).mono ?_; rintro e w13 ⟨b_s4, A_s4, n_s4, rfl, z_s4, hb13⟩; have R13 := ((R12.below hb13).add z_s4); have s13 := And.intro (R13.cell 5 0 rfl rfl) (And.intro (R13.cell 5 1 rfl rfl) (And.intro (R13.cell 4 0 rfl rfl) (And.intro (R13.cell 4 1 rfl rfl) (And.intro (R13.cell 3 0 rfl rfl) (And.intro (R13.cell 3 1 rfl rfl) (And.intro (R13.cell 2 0 rfl rfl) (And.intro (R13.cell 2 1 rfl rfl) (And.intro (R13.cell 1 0 rfl rfl) (And.intro (R13.cell 1 1 rfl rfl) (And.intro (R13.cell 0 0 rfl rfl) (R13.cell 0 1 rfl rfl))))))))))))
      | (go_at_call 14; show Calls _ _ _ w11 _; refine (zsame_true (R11.z 1 rfl) (R11.z 0 rfl) (by decide) (by decide) (by omega)).mono ?_; rintro e w12 ⟨rfl, hb12⟩; have R12 := (R11.below hb12); have s12 := And.intro (R12.cell 5 0 rfl rfl) (And.intro (R12.cell 5 1 rfl rfl) (And.intro (R12.cell 4 0 rfl rfl) (And.intro (R12.cell 4 1 rfl rfl) (And.intro (R12.cell 3 0 rfl rfl) (And.intro (R12.cell 3 1 rfl rfl) (And.intro (R12.cell 2 0 rfl rfl) (And.intro (R12.cell 2 1 rfl rfl) (And.intro (R12.cell 1 0 rfl rfl) (And.intro (R12.cell 1 1 rfl rfl) (And.intro (R12.cell 0 0 rfl rfl) (R12.cell 0 1 rfl rfl))))))))))))
      | (go_at_call 16; show Calls _ _ _ w10 _; refine (rplain_t (K := 14) (R10.z 7 rfl) (by decide) (by decide)).mono ?_; rintro e w11 ⟨b_s3, A_s3, n_s3, c_s3, rfl, z_s3, hb11⟩; have R11 := ((R10.below hb11).add z_s3); have s11 := And.intro (R11.cell 5 0 rfl rfl) (And.intro (R11.cell 5 1 rfl rfl) (And.intro (R11.cell 4 0 rfl rfl) (And.intro (R11.cell 4 1 rfl rfl) (And.intro (R11.cell 3 0 rfl rfl) (And.intro (R11.cell 3 1 rfl rfl) (And.intro (R11.cell 2 0 rfl rfl) (And.intro (R11.cell 2 1 rfl rfl) (And.intro (R11.cell 1 0 rfl rfl) (And.intro (R11.cell 1 1 rfl rfl) (And.intro (R11.cell 0 0 rfl rfl) (R11.cell 0 1 rfl rfl))))))))))))
      | (go_at_call 21; show Calls _ _ _ w9 _; refine (zsub (K := 16) (R9.z 4 rfl) (R9.z 3 rfl) (by decide) (by decide) (by decide)).mono ?_; rintro e w10 ⟨b_s2, A_s2, n_s2, rfl, z_s2, hb10⟩; have R10 := ((R9.below hb10).add z_s2); have s10 := And.intro (R10.cell 5 0 rfl rfl) (And.intro (R10.cell 5 1 rfl rfl) (And.intro (R10.cell 4 0 rfl rfl) (And.intro (R10.cell 4 1 rfl rfl) (And.intro (R10.cell 3 0 rfl rfl) (And.intro (R10.cell 3 1 rfl rfl) (And.intro (R10.cell 2 0 rfl rfl) (And.intro (R10.cell 2 1 rfl rfl) (And.intro (R10.cell 1 0 rfl rfl) (And.intro (R10.cell 1 1 rfl rfl) (And.intro (R10.cell 0 0 rfl rfl) (R10.cell 0 1 rfl rfl))))))))))))
      | (go_at_call 14; show Calls _ _ _ w8 _; refine (zsame_true (R8.z 0 rfl) (R8.z 4 rfl) (by decide) (by decide) (by omega)).mono ?_; rintro e w9 ⟨rfl, hb9⟩; have R9 := (R8.below hb9); have s9 := And.intro (R9.cell 5 0 rfl rfl) (And.intro (R9.cell 5 1 rfl rfl) (And.intro (R9.cell 4 0 rfl rfl) (And.intro (R9.cell 4 1 rfl rfl) (And.intro (R9.cell 3 0 rfl rfl) (And.intro (R9.cell 3 1 rfl rfl) (And.intro (R9.cell 2 0 rfl rfl) (And.intro (R9.cell 2 1 rfl rfl) (And.intro (R9.cell 1 0 rfl rfl) (And.intro (R9.cell 1 1 rfl rfl) (And.intro (R9.cell 0 0 rfl rfl) (R9.cell 0 1 rfl rfl))))))))))))
      | (go_at_call 19; refine (zadd (K := 16) (D7.z 5 rfl) (D7.z 2 rfl) (by decide) (by decide) (by decide)).mono ?_; rintro e w8 ⟨b_s1, A_s1, n_s1, rfl, z_s1, hb8⟩; have R8 := ((D7.below hb8).add z_s1); have s8 := And.intro (R8.cell 5 0 rfl rfl) (And.intro (R8.cell 5 1 rfl rfl) (And.intro (R8.cell 4 0 rfl rfl) (And.intro (R8.cell 4 1 rfl rfl) (And.intro (R8.cell 3 0 rfl rfl) (And.intro (R8.cell 3 1 rfl rfl) (And.intro (R8.cell 2 0 rfl rfl) (And.intro (R8.cell 2 1 rfl rfl) (And.intro (R8.cell 1 0 rfl rfl) (And.intro (R8.cell 1 1 rfl rfl) (And.intro (R8.cell 0 0 rfl rfl) (R8.cell 0 1 rfl rfl))))))))))))))
  go_wp2_with fail
  go_ret
  exact ⟨rfl, R18.bel⟩
end Go.Proofs.YtodgchflhimjfaaDoor
