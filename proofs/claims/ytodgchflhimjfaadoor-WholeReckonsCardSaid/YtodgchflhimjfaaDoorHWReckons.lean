/- WholeReckons: all that is reckoned is what the document says. No condition. -/
import Derived.Test.YtodgchflhimjfaaDoorGP
namespace Go.Proofs.YtodgchflhimjfaaDoor
open Go.RowKit

set_option maxRecDepth 100000 in
set_option maxHeartbeats 6400000 in
theorem wholeReckons_any (ba : Bool) (Aa : Option Addr) (na ca : Nat) (la : List Nat) (bb : Bool) (Ab : Option Addr) (nb cb : Nat) (lb : List Nat) (w : World) (hra : Lim w Aa na ca la) (hna : na ≤ maxLen) (hrb : Lim w Ab nb cb lb) (hnb : nb ≤ maxLen) :
    Calls Tryd.prog 3 #[.agg #[.bool ba, .slice Aa na ca], .agg #[.bool bb, .slice Ab nb cb]] w fun e w' => e = .returned (.bool true) ∧ Below w.heap.size w w' := by
  unfold maxLen at hna
  unfold maxLen at hnb
  by_cases ha : 14 < na
  · have R0 := (((((Env.nil_ w).add (ZIs.of_lim (b := ba) (k := na) hra (Nat.le_refl _))).add (ZIs.of_lim (b := bb) (k := nb) hrb (Nat.le_refl _))).alloc 24 #[.bool ba, .slice Aa na ca] (g := w.heap.size) rfl rfl).alloc 24 #[.bool bb, .slice Ab nb cb] (g := w.heap.size + 1) (by simp) rfl)
    go_enter Tryd.func3, Tryd.ntmps3
    go_wp2_with fail
    refine (wawake_any _).mono ?_
    rintro e w1 ⟨rfl, hb1⟩
    have R1 := (R0.below hb1)
    have k2a0 := R1.cell 1 0 rfl rfl
    have k2a1 := R1.cell 1 1 rfl rfl
    go_wp2_with fail
    clear k2a0 k2a1
    refine (zfew_no (by omega)).mono ?_
    rintro e w2 ⟨rfl, hb2⟩
    have R2 := (R1.below hb2)
    have ka0 := R2.cell 1 0 rfl rfl
    have ka1 := R2.cell 1 1 rfl rfl
    have kb0 := R2.cell 0 0 rfl rfl
    have kb1 := R2.cell 0 1 rfl rfl
    go_wp2_with fail
    go_ret
    exact ⟨rfl, R2.bel⟩
  by_cases hb : 14 < nb
  · have R0 := (((((Env.nil_ w).add (ZIs.of_lim (b := ba) (k := na) hra (Nat.le_refl _))).add (ZIs.of_lim (b := bb) (k := nb) hrb (Nat.le_refl _))).alloc 24 #[.bool ba, .slice Aa na ca] (g := w.heap.size) rfl rfl).alloc 24 #[.bool bb, .slice Ab nb cb] (g := w.heap.size + 1) (by simp) rfl)
    go_enter Tryd.func3, Tryd.ntmps3
    go_wp2_with fail
    refine (wawake_any _).mono ?_
    rintro e w1 ⟨rfl, hb1⟩
    have R1 := (R0.below hb1)
    have k2a0 := R1.cell 1 0 rfl rfl
    have k2a1 := R1.cell 1 1 rfl rfl
    go_wp2_with fail
    clear k2a0 k2a1
    refine (zfew_yes (by omega)).mono ?_
    rintro e w2 ⟨rfl, hb2⟩
    have R2 := (R1.below hb2)
    have k3b0 := R2.cell 0 0 rfl rfl
    have k3b1 := R2.cell 0 1 rfl rfl
    go_wp2_with fail
    clear k3b0 k3b1
    refine (zfew_no (by omega)).mono ?_
    rintro e w3 ⟨rfl, hb3⟩
    have R3 := (R2.below hb3)
    have ka0 := R3.cell 1 0 rfl rfl
    have ka1 := R3.cell 1 1 rfl rfl
    have kb0 := R3.cell 0 0 rfl rfl
    have kb1 := R3.cell 0 1 rfl rfl
    go_wp2_with fail
    go_ret
    exact ⟨rfl, R3.bel⟩
  have R0 := (((((Env.nil_ w).add (ZIs.of_lim (b := ba) (k := 14) hra (by omega))).add (ZIs.of_lim (b := bb) (k := 14) hrb (by omega))).alloc 24 #[.bool ba, .slice Aa na ca] (g := w.heap.size) rfl rfl).alloc 24 #[.bool bb, .slice Ab nb cb] (g := w.heap.size + 1) (by simp) rfl)
  obtain ⟨za, hza⟩ : ∃ z, zv ba (vl la) = z := ⟨_, rfl⟩
  rw [hza] at R0
  clear hza hra
  obtain ⟨zb, hzb⟩ : ∃ z, zv bb (vl lb) = z := ⟨_, rfl⟩
  rw [hzb] at R0
  clear hzb hrb
  go_enter Tryd.func3, Tryd.ntmps3
  go_wp2_with fail
  refine (wawake_any _).mono ?_
  rintro e w1 ⟨rfl, hb1⟩
  have R1 := (R0.below hb1)
  have k2a0 := R1.cell 1 0 rfl rfl
  have k2a1 := R1.cell 1 1 rfl rfl
  go_wp2_with fail
  clear k2a0 k2a1
  refine (zfew_yes (by omega)).mono ?_
  rintro e w2 ⟨rfl, hb2⟩
  have R2 := (R1.below hb2)
  have k3b0 := R2.cell 0 0 rfl rfl
  have k3b1 := R2.cell 0 1 rfl rfl
  go_wp2_with fail
  clear k3b0 k3b1
  refine (zfew_yes (by omega)).mono ?_
  rintro e w3 ⟨rfl, hb3⟩
  have R3 := (R2.below hb3)
  obtain ⟨u1, hu1⟩ : ∃ u, zcmp za zb = u := ⟨_, rfl⟩
  have HU1 := Lib.hid hu1
  clear hu1
  by_cases hz0 : zb = 0
  · skip
    have k4a0 := R3.cell 1 0 rfl rfl
    have k4a1 := R3.cell 1 1 rfl rfl
    have k4b0 := R3.cell 0 0 rfl rfl
    have k4b1 := R3.cell 0 1 rfl rfl
    go_wp2_with fail
    clear k4a0 k4a1 k4b0 k4b1
    refine (zdiv_zero (R3.z 1 rfl) (R3.z 0 rfl) (by decide) (by decide) hz0).mono ?_
    rintro e w4 ⟨rfl, hb4⟩
    have R4 := (R3.below hb4)
    have RQq := (R4.add (ZIs.nil_ _ none 0 0)).alloc 24 #[.bool false, .slice none 0 0] (g := w4.heap.size) rfl rfl
    have RQr := (RQq.add (ZIs.nil_ _ none 0 0)).alloc 24 #[.bool false, .slice none 0 0] (g := w4.heap.size + 1) (by simp) rfl
    have k5a0 := RQr.cell 3 0 rfl rfl
    have k5a1 := RQr.cell 3 1 rfl rfl
    have k5b0 := RQr.cell 2 0 rfl rfl
    have k5b1 := RQr.cell 2 1 rfl rfl
    go_wp2_with fail
    clear k5a0 k5a1 k5b0 k5b1
    refine (rzdiv_zero (RQr.z 3 rfl) (RQr.z 2 rfl) (by decide) (by decide) hz0).mono ?_
    rintro e w5 ⟨rfl, hb5⟩
    have R5 := (RQr.below hb5)
    have RQx := (R5.add (ZIs.nil_ _ none 0 0)).alloc 24 #[.bool false, .slice none 0 0] (g := w5.heap.size) rfl rfl
    have RQy := (RQx.add (ZIs.nil_ _ none 0 0)).alloc 24 #[.bool false, .slice none 0 0] (g := w5.heap.size + 1) (by simp) rfl
    go_wp2_with fail
    have D6 := RQy.drew
    have s6 := And.intro (D6.cell 5 0 rfl rfl) (And.intro (D6.cell 5 1 rfl rfl) (And.intro (D6.cell 4 0 rfl rfl) (And.intro (D6.cell 4 1 rfl rfl) (And.intro (D6.cell 3 0 rfl rfl) (And.intro (D6.cell 3 1 rfl rfl) (And.intro (D6.cell 2 0 rfl rfl) (And.intro (D6.cell 2 1 rfl rfl) (And.intro (D6.cell 1 0 rfl rfl) (And.intro (D6.cell 1 1 rfl rfl) (And.intro (D6.cell 0 0 rfl rfl) (D6.cell 0 1 rfl rfl)))))))))))
    go_region_held3 (fun w' => w'.cell? ⟨w.heap.size, 0, none⟩ = some (.bool ba) ∧ w'.cell? ⟨w.heap.size, 1, none⟩ = some (.slice Aa na ca) ∧ w'.cell? ⟨w.heap.size + 1, 0, none⟩ = some (.bool bb) ∧ w'.cell? ⟨w.heap.size + 1, 1, none⟩ = some (.slice Ab nb cb) ∧ w'.cell? ⟨w4.heap.size, 0, none⟩ = some (.bool false) ∧ w'.cell? ⟨w4.heap.size, 1, none⟩ = some (.slice none 0 0) ∧ w'.cell? ⟨w4.heap.size + 1, 0, none⟩ = some (.bool false) ∧ w'.cell? ⟨w4.heap.size + 1, 1, none⟩ = some (.slice none 0 0) ∧ w'.cell? ⟨w5.heap.size, 0, none⟩ = some (.bool false) ∧ w'.cell? ⟨w5.heap.size, 1, none⟩ = some (.slice none 0 0) ∧ w'.cell? ⟨w5.heap.size + 1, 0, none⟩ = some (.bool false) ∧ w'.cell? ⟨w5.heap.size + 1, 1, none⟩ = some (.slice none 0 0))
      (with_reducible assumption)
      ((first
        | (go_at_call 14; show Calls _ _ _ w21 _; refine (zsame_true (R21.z 10 rfl) (R21.z 8 rfl) (by decide) (by decide) rfl).mono ?_; rintro e w22 ⟨rfl, hb22⟩; have R22 := (R21.below hb22); have s22 := And.intro (R22.cell 5 0 rfl rfl) (And.intro (R22.cell 5 1 rfl rfl) (And.intro (R22.cell 4 0 rfl rfl) (And.intro (R22.cell 4 1 rfl rfl) (And.intro (R22.cell 3 0 rfl rfl) (And.intro (R22.cell 3 1 rfl rfl) (And.intro (R22.cell 2 0 rfl rfl) (And.intro (R22.cell 2 1 rfl rfl) (And.intro (R22.cell 1 0 rfl rfl) (And.intro (R22.cell 1 1 rfl rfl) (And.intro (R22.cell 0 0 rfl rfl) (R22.cell 0 1 rfl rfl))))))))))))
        | (go_at_call 14; show Calls _ _ _ w20 _; refine (zsame_true (R20.z 11 rfl) (R20.z 9 rfl) (by decide) (by decide) rfl).mono ?_; rintro e w21 ⟨rfl, hb21⟩; have R21 := (R20.below hb21); have s21 := And.intro (R21.cell 5 0 rfl rfl) (And.intro (R21.cell 5 1 rfl rfl) (And.intro (R21.cell 4 0 rfl rfl) (And.intro (R21.cell 4 1 rfl rfl) (And.intro (R21.cell 3 0 rfl rfl) (And.intro (R21.cell 3 1 rfl rfl) (And.intro (R21.cell 2 0 rfl rfl) (And.intro (R21.cell 2 1 rfl rfl) (And.intro (R21.cell 1 0 rfl rfl) (And.intro (R21.cell 1 1 rfl rfl) (And.intro (R21.cell 0 0 rfl rfl) (R21.cell 0 1 rfl rfl))))))))))))
        | (go_at_call 14; show Calls _ _ _ w19 _; refine (zsame_true (R19.z 1 rfl) (R19.z 0 rfl) (by decide) (by decide) rfl).mono ?_; rintro e w20 ⟨rfl, hb20⟩; have R20 := (R19.below hb20); have s20 := And.intro (R20.cell 5 0 rfl rfl) (And.intro (R20.cell 5 1 rfl rfl) (And.intro (R20.cell 4 0 rfl rfl) (And.intro (R20.cell 4 1 rfl rfl) (And.intro (R20.cell 3 0 rfl rfl) (And.intro (R20.cell 3 1 rfl rfl) (And.intro (R20.cell 2 0 rfl rfl) (And.intro (R20.cell 2 1 rfl rfl) (And.intro (R20.cell 1 0 rfl rfl) (And.intro (R20.cell 1 1 rfl rfl) (And.intro (R20.cell 0 0 rfl rfl) (R20.cell 0 1 rfl rfl))))))))))))
        | (go_at_call 24; show Calls _ _ _ w18 _; refine (rmul_t (K := 28) (R18.z 12 rfl) (R18.z 11 rfl) (by decide) (by decide) (by decide)).mono ?_; rintro e w19 ⟨b_s6, A_s6, n_s6, c_s6, rfl, z_s6, hb19⟩; have R19 := ((R18.below hb19).add z_s6); have s19 := And.intro (R19.cell 5 0 rfl rfl) (And.intro (R19.cell 5 1 rfl rfl) (And.intro (R19.cell 4 0 rfl rfl) (And.intro (R19.cell 4 1 rfl rfl) (And.intro (R19.cell 3 0 rfl rfl) (And.intro (R19.cell 3 1 rfl rfl) (And.intro (R19.cell 2 0 rfl rfl) (And.intro (R19.cell 2 1 rfl rfl) (And.intro (R19.cell 1 0 rfl rfl) (And.intro (R19.cell 1 1 rfl rfl) (And.intro (R19.cell 0 0 rfl rfl) (R19.cell 0 1 rfl rfl))))))))))))
        | (go_at_call 23; show Calls _ _ _ w17 _; refine (zmul (K := 28) (R17.z 11 rfl) (R17.z 10 rfl) (by decide) (by decide) (by decide)).mono ?_; rintro e w18 ⟨b_s5, A_s5, n_s5, rfl, z_s5, hb18⟩; have R18 := ((R17.below hb18).add z_s5); have s18 := And.intro (R18.cell 5 0 rfl rfl) (And.intro (R18.cell 5 1 rfl rfl) (And.intro (R18.cell 4 0 rfl rfl) (And.intro (R18.cell 4 1 rfl rfl) (And.intro (R18.cell 3 0 rfl rfl) (And.intro (R18.cell 3 1 rfl rfl) (And.intro (R18.cell 2 0 rfl rfl) (And.intro (R18.cell 2 1 rfl rfl) (And.intro (R18.cell 1 0 rfl rfl) (And.intro (R18.cell 1 1 rfl rfl) (And.intro (R18.cell 0 0 rfl rfl) (R18.cell 0 1 rfl rfl))))))))))))
        | (go_at_call 14; show Calls _ _ _ w16 _; refine (zsame_true (R16.z 1 rfl) (R16.z 0 rfl) (by decide) (by decide) rfl).mono ?_; rintro e w17 ⟨rfl, hb17⟩; have R17 := (R16.below hb17); have s17 := And.intro (R17.cell 5 0 rfl rfl) (And.intro (R17.cell 5 1 rfl rfl) (And.intro (R17.cell 4 0 rfl rfl) (And.intro (R17.cell 4 1 rfl rfl) (And.intro (R17.cell 3 0 rfl rfl) (And.intro (R17.cell 3 1 rfl rfl) (And.intro (R17.cell 2 0 rfl rfl) (And.intro (R17.cell 2 1 rfl rfl) (And.intro (R17.cell 1 0 rfl rfl) (And.intro (R17.cell 1 1 rfl rfl) (And.intro (R17.cell 0 0 rfl rfl) (R17.cell 0 1 rfl rfl))))))))))))
        | (go_at_call 22; show Calls _ _ _ w15 _; refine (rsub_t (K := 15) (R15.z 10 rfl) (R15.z 9 rfl) (by decide) (by decide) (by decide)).mono ?_; rintro e w16 ⟨b_s4, A_s4, n_s4, c_s4, rfl, z_s4, hb16⟩; have R16 := ((R15.below hb16).add z_s4); have s16 := And.intro (R16.cell 5 0 rfl rfl) (And.intro (R16.cell 5 1 rfl rfl) (And.intro (R16.cell 4 0 rfl rfl) (And.intro (R16.cell 4 1 rfl rfl) (And.intro (R16.cell 3 0 rfl rfl) (And.intro (R16.cell 3 1 rfl rfl) (And.intro (R16.cell 2 0 rfl rfl) (And.intro (R16.cell 2 1 rfl rfl) (And.intro (R16.cell 1 0 rfl rfl) (And.intro (R16.cell 1 1 rfl rfl) (And.intro (R16.cell 0 0 rfl rfl) (R16.cell 0 1 rfl rfl))))))))))))
        | (go_at_call 21; show Calls _ _ _ w14 _; refine (zsub (K := 15) (R14.z 9 rfl) (R14.z 8 rfl) (by decide) (by decide) (by decide)).mono ?_; rintro e w15 ⟨b_s3, A_s3, n_s3, rfl, z_s3, hb15⟩; have R15 := ((R14.below hb15).add z_s3); have s15 := And.intro (R15.cell 5 0 rfl rfl) (And.intro (R15.cell 5 1 rfl rfl) (And.intro (R15.cell 4 0 rfl rfl) (And.intro (R15.cell 4 1 rfl rfl) (And.intro (R15.cell 3 0 rfl rfl) (And.intro (R15.cell 3 1 rfl rfl) (And.intro (R15.cell 2 0 rfl rfl) (And.intro (R15.cell 2 1 rfl rfl) (And.intro (R15.cell 1 0 rfl rfl) (And.intro (R15.cell 1 1 rfl rfl) (And.intro (R15.cell 0 0 rfl rfl) (R15.cell 0 1 rfl rfl))))))))))))
        | (go_at_call 14; show Calls _ _ _ w13 _; refine (zsame_true (R13.z 1 rfl) (R13.z 0 rfl) (by decide) (by decide) rfl).mono ?_; rintro e w14 ⟨rfl, hb14⟩; have R14 := (R13.below hb14); have s14 := And.intro (R14.cell 5 0 rfl rfl) (And.intro (R14.cell 5 1 rfl rfl) (And.intro (R14.cell 4 0 rfl rfl) (And.intro (R14.cell 4 1 rfl rfl) (And.intro (R14.cell 3 0 rfl rfl) (And.intro (R14.cell 3 1 rfl rfl) (And.intro (R14.cell 2 0 rfl rfl) (And.intro (R14.cell 2 1 rfl rfl) (And.intro (R14.cell 1 0 rfl rfl) (And.intro (R14.cell 1 1 rfl rfl) (And.intro (R14.cell 0 0 rfl rfl) (R14.cell 0 1 rfl rfl))))))))))))
        | (go_at_call 20; show Calls _ _ _ w12 _; refine (radd_t (K := 15) (R12.z 8 rfl) (R12.z 7 rfl) (by decide) (by decide) (by decide)).mono ?_; rintro e w13 ⟨b_s2, A_s2, n_s2, c_s2, rfl, z_s2, hb13⟩; have R13 := ((R12.below hb13).add z_s2); have s13 := And.intro (R13.cell 5 0 rfl rfl) (And.intro (R13.cell 5 1 rfl rfl) (And.intro (R13.cell 4 0 rfl rfl) (And.intro (R13.cell 4 1 rfl rfl) (And.intro (R13.cell 3 0 rfl rfl) (And.intro (R13.cell 3 1 rfl rfl) (And.intro (R13.cell 2 0 rfl rfl) (And.intro (R13.cell 2 1 rfl rfl) (And.intro (R13.cell 1 0 rfl rfl) (And.intro (R13.cell 1 1 rfl rfl) (And.intro (R13.cell 0 0 rfl rfl) (R13.cell 0 1 rfl rfl))))))))))))
        | (go_at_call 19; show Calls _ _ _ w11 _; refine (zadd (K := 15) (R11.z 7 rfl) (R11.z 6 rfl) (by decide) (by decide) (by decide)).mono ?_; rintro e w12 ⟨b_s1, A_s1, n_s1, rfl, z_s1, hb12⟩; have R12 := ((R11.below hb12).add z_s1); have s12 := And.intro (R12.cell 5 0 rfl rfl) (And.intro (R12.cell 5 1 rfl rfl) (And.intro (R12.cell 4 0 rfl rfl) (And.intro (R12.cell 4 1 rfl rfl) (And.intro (R12.cell 3 0 rfl rfl) (And.intro (R12.cell 3 1 rfl rfl) (And.intro (R12.cell 2 0 rfl rfl) (And.intro (R12.cell 2 1 rfl rfl) (And.intro (R12.cell 1 0 rfl rfl) (And.intro (R12.cell 1 1 rfl rfl) (And.intro (R12.cell 0 0 rfl rfl) (R12.cell 0 1 rfl rfl))))))))))))
        | (go_at_call 18; show Calls _ _ _ w10 _; refine (rzcmp_is (R10.z 7 rfl) (R10.z 6 rfl) (by decide) (by decide) u1 HU1.out).mono ?_; rintro e w11 ⟨rfl, hb11⟩; have R11 := (R10.below hb11); have s11 := And.intro (R11.cell 5 0 rfl rfl) (And.intro (R11.cell 5 1 rfl rfl) (And.intro (R11.cell 4 0 rfl rfl) (And.intro (R11.cell 4 1 rfl rfl) (And.intro (R11.cell 3 0 rfl rfl) (And.intro (R11.cell 3 1 rfl rfl) (And.intro (R11.cell 2 0 rfl rfl) (And.intro (R11.cell 2 1 rfl rfl) (And.intro (R11.cell 1 0 rfl rfl) (And.intro (R11.cell 1 1 rfl rfl) (And.intro (R11.cell 0 0 rfl rfl) (R11.cell 0 1 rfl rfl))))))))))))
        | (go_at_call 17; show Calls _ _ _ w9 _; refine (zcmp_is (R9.z 7 rfl) (R9.z 6 rfl) (by decide) (by decide) u1 HU1.out).mono ?_; rintro e w10 ⟨rfl, hb10⟩; have R10 := (R9.below hb10); have s10 := And.intro (R10.cell 5 0 rfl rfl) (And.intro (R10.cell 5 1 rfl rfl) (And.intro (R10.cell 4 0 rfl rfl) (And.intro (R10.cell 4 1 rfl rfl) (And.intro (R10.cell 3 0 rfl rfl) (And.intro (R10.cell 3 1 rfl rfl) (And.intro (R10.cell 2 0 rfl rfl) (And.intro (R10.cell 2 1 rfl rfl) (And.intro (R10.cell 1 0 rfl rfl) (And.intro (R10.cell 1 1 rfl rfl) (And.intro (R10.cell 0 0 rfl rfl) (R10.cell 0 1 rfl rfl))))))))))))
        | (go_at_call 14; show Calls _ _ _ w8 _; refine (zsame_true (R8.z 1 rfl) (R8.z 0 rfl) (by decide) (by decide) rfl).mono ?_; rintro e w9 ⟨rfl, hb9⟩; have R9 := (R8.below hb9); have s9 := And.intro (R9.cell 5 0 rfl rfl) (And.intro (R9.cell 5 1 rfl rfl) (And.intro (R9.cell 4 0 rfl rfl) (And.intro (R9.cell 4 1 rfl rfl) (And.intro (R9.cell 3 0 rfl rfl) (And.intro (R9.cell 3 1 rfl rfl) (And.intro (R9.cell 2 0 rfl rfl) (And.intro (R9.cell 2 1 rfl rfl) (And.intro (R9.cell 1 0 rfl rfl) (And.intro (R9.cell 1 1 rfl rfl) (And.intro (R9.cell 0 0 rfl rfl) (R9.cell 0 1 rfl rfl))))))))))))
        | (go_at_call 16; show Calls _ _ _ w7 _; refine (rplain_t (K := 14) (R7.z 6 rfl) (by decide) (by decide)).mono ?_; rintro e w8 ⟨b_p2, A_p2, n_p2, c_p2, rfl, z_p2, hb8⟩; have R8 := ((R7.below hb8).add z_p2); have s8 := And.intro (R8.cell 5 0 rfl rfl) (And.intro (R8.cell 5 1 rfl rfl) (And.intro (R8.cell 4 0 rfl rfl) (And.intro (R8.cell 4 1 rfl rfl) (And.intro (R8.cell 3 0 rfl rfl) (And.intro (R8.cell 3 1 rfl rfl) (And.intro (R8.cell 2 0 rfl rfl) (And.intro (R8.cell 2 1 rfl rfl) (And.intro (R8.cell 1 0 rfl rfl) (And.intro (R8.cell 1 1 rfl rfl) (And.intro (R8.cell 0 0 rfl rfl) (R8.cell 0 1 rfl rfl))))))))))))
        | (go_at_call 15; refine (zplain (K := 14) (D6.z 5 rfl) (by decide) (by decide)).mono ?_; rintro e w7 ⟨b_p1, A_p1, n_p1, rfl, z_p1, hb7⟩; have R7 := ((D6.below hb7).add z_p1); have s7 := And.intro (R7.cell 5 0 rfl rfl) (And.intro (R7.cell 5 1 rfl rfl) (And.intro (R7.cell 4 0 rfl rfl) (And.intro (R7.cell 4 1 rfl rfl) (And.intro (R7.cell 3 0 rfl rfl) (And.intro (R7.cell 3 1 rfl rfl) (And.intro (R7.cell 2 0 rfl rfl) (And.intro (R7.cell 2 1 rfl rfl) (And.intro (R7.cell 1 0 rfl rfl) (And.intro (R7.cell 1 1 rfl rfl) (And.intro (R7.cell 0 0 rfl rfl) (R7.cell 0 1 rfl rfl))))))))))))))
    go_wp2_with fail
    go_ret
    exact ⟨rfl, R22.bel⟩
  · skip
    have k4a0 := R3.cell 1 0 rfl rfl
    have k4a1 := R3.cell 1 1 rfl rfl
    have k4b0 := R3.cell 0 0 rfl rfl
    have k4b1 := R3.cell 0 1 rfl rfl
    go_wp2_with fail
    clear k4a0 k4a1 k4b0 k4b1
    refine (zdiv (K := 17) (L := 15) (R3.z 1 rfl) (R3.z 0 rfl) (by decide) (by decide) hz0 (by decide) (by decide)).mono ?_
    rintro e w4 ⟨b_q, A_q, n_q, b_r, A_r, n_r, rfl, z_q, z_r, hb4⟩
    have R4 := (((((R3.below hb4).add z_q).add z_r).alloc 24 #[.bool b_q, .slice A_q n_q n_q] (g := w4.heap.size) rfl rfl).alloc 24 #[.bool b_r, .slice A_r n_r n_r] (g := w4.heap.size + 1) (by simp) rfl)
    have k5a0 := R4.cell 3 0 rfl rfl
    have k5a1 := R4.cell 3 1 rfl rfl
    have k5b0 := R4.cell 2 0 rfl rfl
    have k5b1 := R4.cell 2 1 rfl rfl
    go_wp2_with fail
    clear k5a0 k5a1 k5b0 k5b1
    refine (rzdiv (K := 15) (L := 14) (R4.z 3 rfl) (R4.z 2 rfl) (by decide) (by decide) hz0 (by decide) (by decide)).mono ?_
    rintro e w5 ⟨b_x, A_x, n_x, c_x, b_y, A_y, n_y, c_y, rfl, z_x, z_y, hb5⟩
    have R5 := (((((R4.below hb5).add z_x).add z_y).alloc 24 #[.bool b_x, .slice A_x n_x c_x] (g := w5.heap.size) rfl rfl).alloc 24 #[.bool b_y, .slice A_y n_y c_y] (g := w5.heap.size + 1) (by simp) rfl)
    go_wp2_with fail
    have D6 := R5.drew
    have s6 := And.intro (D6.cell 5 0 rfl rfl) (And.intro (D6.cell 5 1 rfl rfl) (And.intro (D6.cell 4 0 rfl rfl) (And.intro (D6.cell 4 1 rfl rfl) (And.intro (D6.cell 3 0 rfl rfl) (And.intro (D6.cell 3 1 rfl rfl) (And.intro (D6.cell 2 0 rfl rfl) (And.intro (D6.cell 2 1 rfl rfl) (And.intro (D6.cell 1 0 rfl rfl) (And.intro (D6.cell 1 1 rfl rfl) (And.intro (D6.cell 0 0 rfl rfl) (D6.cell 0 1 rfl rfl)))))))))))
    go_region_held3 (fun w' => w'.cell? ⟨w.heap.size, 0, none⟩ = some (.bool ba) ∧ w'.cell? ⟨w.heap.size, 1, none⟩ = some (.slice Aa na ca) ∧ w'.cell? ⟨w.heap.size + 1, 0, none⟩ = some (.bool bb) ∧ w'.cell? ⟨w.heap.size + 1, 1, none⟩ = some (.slice Ab nb cb) ∧ w'.cell? ⟨w4.heap.size, 0, none⟩ = some (.bool b_q) ∧ w'.cell? ⟨w4.heap.size, 1, none⟩ = some (.slice A_q n_q n_q) ∧ w'.cell? ⟨w4.heap.size + 1, 0, none⟩ = some (.bool b_r) ∧ w'.cell? ⟨w4.heap.size + 1, 1, none⟩ = some (.slice A_r n_r n_r) ∧ w'.cell? ⟨w5.heap.size, 0, none⟩ = some (.bool b_x) ∧ w'.cell? ⟨w5.heap.size, 1, none⟩ = some (.slice A_x n_x c_x) ∧ w'.cell? ⟨w5.heap.size + 1, 0, none⟩ = some (.bool b_y) ∧ w'.cell? ⟨w5.heap.size + 1, 1, none⟩ = some (.slice A_y n_y c_y))
      (with_reducible assumption)
      ((first
        | (go_at_call 14; show Calls _ _ _ w21 _; refine (zsame_true (R21.z 10 rfl) (R21.z 8 rfl) (by decide) (by decide) rfl).mono ?_; rintro e w22 ⟨rfl, hb22⟩; have R22 := (R21.below hb22); have s22 := And.intro (R22.cell 5 0 rfl rfl) (And.intro (R22.cell 5 1 rfl rfl) (And.intro (R22.cell 4 0 rfl rfl) (And.intro (R22.cell 4 1 rfl rfl) (And.intro (R22.cell 3 0 rfl rfl) (And.intro (R22.cell 3 1 rfl rfl) (And.intro (R22.cell 2 0 rfl rfl) (And.intro (R22.cell 2 1 rfl rfl) (And.intro (R22.cell 1 0 rfl rfl) (And.intro (R22.cell 1 1 rfl rfl) (And.intro (R22.cell 0 0 rfl rfl) (R22.cell 0 1 rfl rfl))))))))))))
        | (go_at_call 14; show Calls _ _ _ w20 _; refine (zsame_true (R20.z 11 rfl) (R20.z 9 rfl) (by decide) (by decide) rfl).mono ?_; rintro e w21 ⟨rfl, hb21⟩; have R21 := (R20.below hb21); have s21 := And.intro (R21.cell 5 0 rfl rfl) (And.intro (R21.cell 5 1 rfl rfl) (And.intro (R21.cell 4 0 rfl rfl) (And.intro (R21.cell 4 1 rfl rfl) (And.intro (R21.cell 3 0 rfl rfl) (And.intro (R21.cell 3 1 rfl rfl) (And.intro (R21.cell 2 0 rfl rfl) (And.intro (R21.cell 2 1 rfl rfl) (And.intro (R21.cell 1 0 rfl rfl) (And.intro (R21.cell 1 1 rfl rfl) (And.intro (R21.cell 0 0 rfl rfl) (R21.cell 0 1 rfl rfl))))))))))))
        | (go_at_call 14; show Calls _ _ _ w19 _; refine (zsame_true (R19.z 1 rfl) (R19.z 0 rfl) (by decide) (by decide) rfl).mono ?_; rintro e w20 ⟨rfl, hb20⟩; have R20 := (R19.below hb20); have s20 := And.intro (R20.cell 5 0 rfl rfl) (And.intro (R20.cell 5 1 rfl rfl) (And.intro (R20.cell 4 0 rfl rfl) (And.intro (R20.cell 4 1 rfl rfl) (And.intro (R20.cell 3 0 rfl rfl) (And.intro (R20.cell 3 1 rfl rfl) (And.intro (R20.cell 2 0 rfl rfl) (And.intro (R20.cell 2 1 rfl rfl) (And.intro (R20.cell 1 0 rfl rfl) (And.intro (R20.cell 1 1 rfl rfl) (And.intro (R20.cell 0 0 rfl rfl) (R20.cell 0 1 rfl rfl))))))))))))
        | (go_at_call 24; show Calls _ _ _ w18 _; refine (rmul_t (K := 28) (R18.z 12 rfl) (R18.z 11 rfl) (by decide) (by decide) (by decide)).mono ?_; rintro e w19 ⟨b_s6, A_s6, n_s6, c_s6, rfl, z_s6, hb19⟩; have R19 := ((R18.below hb19).add z_s6); have s19 := And.intro (R19.cell 5 0 rfl rfl) (And.intro (R19.cell 5 1 rfl rfl) (And.intro (R19.cell 4 0 rfl rfl) (And.intro (R19.cell 4 1 rfl rfl) (And.intro (R19.cell 3 0 rfl rfl) (And.intro (R19.cell 3 1 rfl rfl) (And.intro (R19.cell 2 0 rfl rfl) (And.intro (R19.cell 2 1 rfl rfl) (And.intro (R19.cell 1 0 rfl rfl) (And.intro (R19.cell 1 1 rfl rfl) (And.intro (R19.cell 0 0 rfl rfl) (R19.cell 0 1 rfl rfl))))))))))))
        | (go_at_call 23; show Calls _ _ _ w17 _; refine (zmul (K := 28) (R17.z 11 rfl) (R17.z 10 rfl) (by decide) (by decide) (by decide)).mono ?_; rintro e w18 ⟨b_s5, A_s5, n_s5, rfl, z_s5, hb18⟩; have R18 := ((R17.below hb18).add z_s5); have s18 := And.intro (R18.cell 5 0 rfl rfl) (And.intro (R18.cell 5 1 rfl rfl) (And.intro (R18.cell 4 0 rfl rfl) (And.intro (R18.cell 4 1 rfl rfl) (And.intro (R18.cell 3 0 rfl rfl) (And.intro (R18.cell 3 1 rfl rfl) (And.intro (R18.cell 2 0 rfl rfl) (And.intro (R18.cell 2 1 rfl rfl) (And.intro (R18.cell 1 0 rfl rfl) (And.intro (R18.cell 1 1 rfl rfl) (And.intro (R18.cell 0 0 rfl rfl) (R18.cell 0 1 rfl rfl))))))))))))
        | (go_at_call 14; show Calls _ _ _ w16 _; refine (zsame_true (R16.z 1 rfl) (R16.z 0 rfl) (by decide) (by decide) rfl).mono ?_; rintro e w17 ⟨rfl, hb17⟩; have R17 := (R16.below hb17); have s17 := And.intro (R17.cell 5 0 rfl rfl) (And.intro (R17.cell 5 1 rfl rfl) (And.intro (R17.cell 4 0 rfl rfl) (And.intro (R17.cell 4 1 rfl rfl) (And.intro (R17.cell 3 0 rfl rfl) (And.intro (R17.cell 3 1 rfl rfl) (And.intro (R17.cell 2 0 rfl rfl) (And.intro (R17.cell 2 1 rfl rfl) (And.intro (R17.cell 1 0 rfl rfl) (And.intro (R17.cell 1 1 rfl rfl) (And.intro (R17.cell 0 0 rfl rfl) (R17.cell 0 1 rfl rfl))))))))))))
        | (go_at_call 22; show Calls _ _ _ w15 _; refine (rsub_t (K := 15) (R15.z 10 rfl) (R15.z 9 rfl) (by decide) (by decide) (by decide)).mono ?_; rintro e w16 ⟨b_s4, A_s4, n_s4, c_s4, rfl, z_s4, hb16⟩; have R16 := ((R15.below hb16).add z_s4); have s16 := And.intro (R16.cell 5 0 rfl rfl) (And.intro (R16.cell 5 1 rfl rfl) (And.intro (R16.cell 4 0 rfl rfl) (And.intro (R16.cell 4 1 rfl rfl) (And.intro (R16.cell 3 0 rfl rfl) (And.intro (R16.cell 3 1 rfl rfl) (And.intro (R16.cell 2 0 rfl rfl) (And.intro (R16.cell 2 1 rfl rfl) (And.intro (R16.cell 1 0 rfl rfl) (And.intro (R16.cell 1 1 rfl rfl) (And.intro (R16.cell 0 0 rfl rfl) (R16.cell 0 1 rfl rfl))))))))))))
        | (go_at_call 21; show Calls _ _ _ w14 _; refine (zsub (K := 15) (R14.z 9 rfl) (R14.z 8 rfl) (by decide) (by decide) (by decide)).mono ?_; rintro e w15 ⟨b_s3, A_s3, n_s3, rfl, z_s3, hb15⟩; have R15 := ((R14.below hb15).add z_s3); have s15 := And.intro (R15.cell 5 0 rfl rfl) (And.intro (R15.cell 5 1 rfl rfl) (And.intro (R15.cell 4 0 rfl rfl) (And.intro (R15.cell 4 1 rfl rfl) (And.intro (R15.cell 3 0 rfl rfl) (And.intro (R15.cell 3 1 rfl rfl) (And.intro (R15.cell 2 0 rfl rfl) (And.intro (R15.cell 2 1 rfl rfl) (And.intro (R15.cell 1 0 rfl rfl) (And.intro (R15.cell 1 1 rfl rfl) (And.intro (R15.cell 0 0 rfl rfl) (R15.cell 0 1 rfl rfl))))))))))))
        | (go_at_call 14; show Calls _ _ _ w13 _; refine (zsame_true (R13.z 1 rfl) (R13.z 0 rfl) (by decide) (by decide) rfl).mono ?_; rintro e w14 ⟨rfl, hb14⟩; have R14 := (R13.below hb14); have s14 := And.intro (R14.cell 5 0 rfl rfl) (And.intro (R14.cell 5 1 rfl rfl) (And.intro (R14.cell 4 0 rfl rfl) (And.intro (R14.cell 4 1 rfl rfl) (And.intro (R14.cell 3 0 rfl rfl) (And.intro (R14.cell 3 1 rfl rfl) (And.intro (R14.cell 2 0 rfl rfl) (And.intro (R14.cell 2 1 rfl rfl) (And.intro (R14.cell 1 0 rfl rfl) (And.intro (R14.cell 1 1 rfl rfl) (And.intro (R14.cell 0 0 rfl rfl) (R14.cell 0 1 rfl rfl))))))))))))
        | (go_at_call 20; show Calls _ _ _ w12 _; refine (radd_t (K := 15) (R12.z 8 rfl) (R12.z 7 rfl) (by decide) (by decide) (by decide)).mono ?_; rintro e w13 ⟨b_s2, A_s2, n_s2, c_s2, rfl, z_s2, hb13⟩; have R13 := ((R12.below hb13).add z_s2); have s13 := And.intro (R13.cell 5 0 rfl rfl) (And.intro (R13.cell 5 1 rfl rfl) (And.intro (R13.cell 4 0 rfl rfl) (And.intro (R13.cell 4 1 rfl rfl) (And.intro (R13.cell 3 0 rfl rfl) (And.intro (R13.cell 3 1 rfl rfl) (And.intro (R13.cell 2 0 rfl rfl) (And.intro (R13.cell 2 1 rfl rfl) (And.intro (R13.cell 1 0 rfl rfl) (And.intro (R13.cell 1 1 rfl rfl) (And.intro (R13.cell 0 0 rfl rfl) (R13.cell 0 1 rfl rfl))))))))))))
        | (go_at_call 19; show Calls _ _ _ w11 _; refine (zadd (K := 15) (R11.z 7 rfl) (R11.z 6 rfl) (by decide) (by decide) (by decide)).mono ?_; rintro e w12 ⟨b_s1, A_s1, n_s1, rfl, z_s1, hb12⟩; have R12 := ((R11.below hb12).add z_s1); have s12 := And.intro (R12.cell 5 0 rfl rfl) (And.intro (R12.cell 5 1 rfl rfl) (And.intro (R12.cell 4 0 rfl rfl) (And.intro (R12.cell 4 1 rfl rfl) (And.intro (R12.cell 3 0 rfl rfl) (And.intro (R12.cell 3 1 rfl rfl) (And.intro (R12.cell 2 0 rfl rfl) (And.intro (R12.cell 2 1 rfl rfl) (And.intro (R12.cell 1 0 rfl rfl) (And.intro (R12.cell 1 1 rfl rfl) (And.intro (R12.cell 0 0 rfl rfl) (R12.cell 0 1 rfl rfl))))))))))))
        | (go_at_call 18; show Calls _ _ _ w10 _; refine (rzcmp_is (R10.z 7 rfl) (R10.z 6 rfl) (by decide) (by decide) u1 HU1.out).mono ?_; rintro e w11 ⟨rfl, hb11⟩; have R11 := (R10.below hb11); have s11 := And.intro (R11.cell 5 0 rfl rfl) (And.intro (R11.cell 5 1 rfl rfl) (And.intro (R11.cell 4 0 rfl rfl) (And.intro (R11.cell 4 1 rfl rfl) (And.intro (R11.cell 3 0 rfl rfl) (And.intro (R11.cell 3 1 rfl rfl) (And.intro (R11.cell 2 0 rfl rfl) (And.intro (R11.cell 2 1 rfl rfl) (And.intro (R11.cell 1 0 rfl rfl) (And.intro (R11.cell 1 1 rfl rfl) (And.intro (R11.cell 0 0 rfl rfl) (R11.cell 0 1 rfl rfl))))))))))))
        | (go_at_call 17; show Calls _ _ _ w9 _; refine (zcmp_is (R9.z 7 rfl) (R9.z 6 rfl) (by decide) (by decide) u1 HU1.out).mono ?_; rintro e w10 ⟨rfl, hb10⟩; have R10 := (R9.below hb10); have s10 := And.intro (R10.cell 5 0 rfl rfl) (And.intro (R10.cell 5 1 rfl rfl) (And.intro (R10.cell 4 0 rfl rfl) (And.intro (R10.cell 4 1 rfl rfl) (And.intro (R10.cell 3 0 rfl rfl) (And.intro (R10.cell 3 1 rfl rfl) (And.intro (R10.cell 2 0 rfl rfl) (And.intro (R10.cell 2 1 rfl rfl) (And.intro (R10.cell 1 0 rfl rfl) (And.intro (R10.cell 1 1 rfl rfl) (And.intro (R10.cell 0 0 rfl rfl) (R10.cell 0 1 rfl rfl))))))))))))
        | (go_at_call 14; show Calls _ _ _ w8 _; refine (zsame_true (R8.z 1 rfl) (R8.z 0 rfl) (by decide) (by decide) rfl).mono ?_; rintro e w9 ⟨rfl, hb9⟩; have R9 := (R8.below hb9); have s9 := And.intro (R9.cell 5 0 rfl rfl) (And.intro (R9.cell 5 1 rfl rfl) (And.intro (R9.cell 4 0 rfl rfl) (And.intro (R9.cell 4 1 rfl rfl) (And.intro (R9.cell 3 0 rfl rfl) (And.intro (R9.cell 3 1 rfl rfl) (And.intro (R9.cell 2 0 rfl rfl) (And.intro (R9.cell 2 1 rfl rfl) (And.intro (R9.cell 1 0 rfl rfl) (And.intro (R9.cell 1 1 rfl rfl) (And.intro (R9.cell 0 0 rfl rfl) (R9.cell 0 1 rfl rfl))))))))))))
        | (go_at_call 16; show Calls _ _ _ w7 _; refine (rplain_t (K := 14) (R7.z 6 rfl) (by decide) (by decide)).mono ?_; rintro e w8 ⟨b_p2, A_p2, n_p2, c_p2, rfl, z_p2, hb8⟩; have R8 := ((R7.below hb8).add z_p2); have s8 := And.intro (R8.cell 5 0 rfl rfl) (And.intro (R8.cell 5 1 rfl rfl) (And.intro (R8.cell 4 0 rfl rfl) (And.intro (R8.cell 4 1 rfl rfl) (And.intro (R8.cell 3 0 rfl rfl) (And.intro (R8.cell 3 1 rfl rfl) (And.intro (R8.cell 2 0 rfl rfl) (And.intro (R8.cell 2 1 rfl rfl) (And.intro (R8.cell 1 0 rfl rfl) (And.intro (R8.cell 1 1 rfl rfl) (And.intro (R8.cell 0 0 rfl rfl) (R8.cell 0 1 rfl rfl))))))))))))
        | (go_at_call 15; refine (zplain (K := 14) (D6.z 5 rfl) (by decide) (by decide)).mono ?_; rintro e w7 ⟨b_p1, A_p1, n_p1, rfl, z_p1, hb7⟩; have R7 := ((D6.below hb7).add z_p1); have s7 := And.intro (R7.cell 5 0 rfl rfl) (And.intro (R7.cell 5 1 rfl rfl) (And.intro (R7.cell 4 0 rfl rfl) (And.intro (R7.cell 4 1 rfl rfl) (And.intro (R7.cell 3 0 rfl rfl) (And.intro (R7.cell 3 1 rfl rfl) (And.intro (R7.cell 2 0 rfl rfl) (And.intro (R7.cell 2 1 rfl rfl) (And.intro (R7.cell 1 0 rfl rfl) (And.intro (R7.cell 1 1 rfl rfl) (And.intro (R7.cell 0 0 rfl rfl) (R7.cell 0 1 rfl rfl))))))))))))))
    go_wp2_with fail
    go_ret
    exact ⟨rfl, R22.bel⟩
end Go.Proofs.YtodgchflhimjfaaDoor
