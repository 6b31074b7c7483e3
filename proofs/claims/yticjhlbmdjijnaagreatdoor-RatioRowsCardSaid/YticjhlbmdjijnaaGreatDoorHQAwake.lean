/- What a law of layer 3 asks first. No condition. No condition but the reach of a slice. -/
import Derived.Test.YticjhlbmdjijnaaGreatDoorHQP2
import Derived.Test.YticjhlbmdjijnaaGreatDoorHQRP2
import Derived.Test.YticjhlbmdjijnaaGreatDoorHQT
import Derived.Test.YticjhlbmdjijnaaGreatDoorHQU
import Derived.Test.YticjhlbmdjijnaaGreatDoorHQG
import Derived.Test.YticjhlbmdjijnaaGreatDoorHQF
import Derived.Test.YticjhlbmdjijnaaGreatDoorHQE
import Derived.Test.YticjhlbmdjijnaaGreatDoorHQS
namespace Go.Proofs.YticjhlbmdjijnaaGreatDoor
set_option linter.unusedSimpArgs false
set_option linter.unusedVariables false
open Go.RowKit

theorem qsame_eq {r s : Rat} (h : r = s) : decide (r.num = s.num ∧ ((r.den : Nat) : Int) = ((s.den : Nat) : Int)) = true := by
  subst h; exact decide_eq_true ⟨rfl, rfl⟩
theorem qsame_dec (r s : Rat) {b : Bool} (h : decide (r = s) = b) : decide (r.num = s.num ∧ ((r.den : Nat) : Int) = ((s.den : Nat) : Int)) = b := by
  rw [← h]
  by_cases e : r = s
  · subst e; rw [decide_eq_true rfl]; exact decide_eq_true ⟨rfl, rfl⟩
  · rw [decide_eq_false e]; exact decide_eq_false fun h => e (Rat.ext h.1 (by have := h.2; omega))
def qa : Rat := Rat.divInt (-3) 2
def qc : Rat := Rat.divInt 1 2
def qm : Rat := -1
theorem qaw_of : Rat.divInt 6 (-4) = qa := by decide +kernel
theorem qaw_0 : Rat.divInt 1 0 = (0 : Rat) := by decide +kernel
theorem qaw_b : qpok [45, 49, 46, 53, 48] = true ∧ qpv [45, 49, 46, 53, 48] = qa := by decide +kernel
theorem qaw_c : qpok [55, 47, 49, 52] = true ∧ qpv [55, 47, 49, 52] = qc := by decide +kernel
theorem qaw_floor : qa.floor = -2 := by decide +kernel
theorem qaw_ceil : qa.ceil = -1 := by decide +kernel
theorem qaw_frac : qfrac qa = qc := by decide +kernel
theorem qaw_cmp : qcmp qa qc = -1 := by decide +kernel
theorem qaw_add : qa + qc = qm := by decide +kernel
theorem ztx_s (z : Nat) (h : z < 10) : ztx (z : Int) = [48 + z] := by
  unfold ztx
  rw [if_neg (by omega), Int.natAbs_natCast, decTxt_small h]
theorem ztx_n (z : Nat) (h : z < 10) (h0 : 0 < z) : ztx (-(z : Int)) = [45, 48 + z] := by
  unfold ztx
  rw [if_pos (by omega), Int.natAbs_neg, Int.natAbs_natCast, decTxt_small h]
theorem qaw_ta : str (qtx qa) = ⟨#[45, 51, 47, 50]⟩ := by
  have h1 : qa.num = -((3 : Nat) : Int) := by decide +kernel
  have h2 : qa.den = 2 := by decide +kernel
  unfold qtx
  rw [h2, if_neg (by decide), h1, ztx_n 3 (by decide) (by decide), ztx_s 2 (by decide)]
  rfl
theorem qaw_tc : str (qtx qc) = ⟨#[49, 47, 50]⟩ := by
  have h1 : qc.num = ((1 : Nat) : Int) := by decide +kernel
  have h2 : qc.den = 2 := by decide +kernel
  unfold qtx
  rw [h2, if_neg (by decide), h1, ztx_s 1 (by decide), ztx_s 2 (by decide)]
  rfl
theorem qaw_tm : str (qtx qm) = ⟨#[45, 49]⟩ := by
  have h1 : qm.num = -((1 : Nat) : Int) := by decide +kernel
  have h2 : qm.den = 1 := by decide +kernel
  unfold qtx
  rw [h2, if_pos rfl, h1, ztx_n 1 (by decide) (by decide)]
  rfl
set_option maxRecDepth 100000 in
set_option maxHeartbeats 12800000 in
theorem qawake_any (w : World) : Calls Tryz.prog 12 #[] w fun e w' => e = .returned (.bool true) ∧ Below w.heap.size w w' := by
  have R0 := Env.nil_ w
  have hp1 := fun w0 => qparse [45, 49, 46, 53, 48] (by decide) w0 (by decide)
  have hp2 := fun w0 => qparse [55, 47, 49, 52] (by decide) w0 (by decide)
  rw [qaw_b.1, qaw_b.2, show str [45, 49, 46, 53, 48] = ⟨#[45, 49, 46, 53, 48]⟩ from rfl] at hp1
  rw [qaw_c.1, qaw_c.2, show str [55, 47, 49, 52] = ⟨#[55, 47, 49, 52]⟩ from rfl] at hp2
  go_enter Tryz.func12, Tryz.ntmps12
  go_wp2_with fail
  refine (qof 6 (-4) ⟨by decide, by decide⟩ ⟨by decide, by decide⟩ _ qaw_of (by decide : decide ((-4 : Int) ≠ 0) = true)).mono ?_; rintro e w1 ⟨b_an, A_an, n_an, b_ad, A_ad, n_ad, rfl, z_an, z_ad, hb1⟩
  have R1 := ((((R0.below hb1).add z_an).add z_ad).alloc 26 #[.bool b_an, .slice A_an n_an n_an, .bool b_ad, .slice A_ad n_ad n_ad] (g := w1.heap.size) rfl rfl)
  go_wp2_with fail
  refine (qof 1 0 ⟨by decide, by decide⟩ ⟨by decide, by decide⟩ _ qaw_0 (by decide : decide ((0 : Int) ≠ 0) = false)).mono ?_; rintro e w2 ⟨b_zn, A_zn, n_zn, b_zd, A_zd, n_zd, rfl, z_zn, z_zd, hb2⟩
  have R2 := ((((R1.below hb2).add z_zn).add z_zd).alloc 26 #[.bool b_zn, .slice A_zn n_zn n_zn, .bool b_zd, .slice A_zd n_zd n_zd] (g := w2.heap.size) rfl rfl)
  go_wp2_with fail
  refine (hp1 _).mono ?_; rintro e w3 ⟨b_bn, A_bn, n_bn, b_bd, A_bd, n_bd, rfl, z_bn, z_bd, hb3⟩
  have R3 := ((((R2.below hb3).add z_bn).add z_bd).alloc 26 #[.bool b_bn, .slice A_bn n_bn n_bn, .bool b_bd, .slice A_bd n_bd n_bd] (g := w3.heap.size) rfl rfl)
  go_wp2_with fail
  refine (hp2 _).mono ?_; rintro e w4 ⟨b_cn, A_cn, n_cn, b_cd, A_cd, n_cd, rfl, z_cn, z_cd, hb4⟩
  have R4 := ((((R3.below hb4).add z_cn).add z_cd).alloc 26 #[.bool b_cn, .slice A_cn n_cn n_cn, .bool b_cd, .slice A_cd n_cd n_cd] (g := w4.heap.size) rfl rfl)
  have k5a0 := R4.cell 3 0 rfl rfl
  have k5a1 := R4.cell 3 1 rfl rfl
  have k5a2 := R4.cell 3 2 rfl rfl
  have k5a3 := R4.cell 3 3 rfl rfl
  go_wp2_with fail
  clear k5a0 k5a1 k5a2 k5a3
  refine (qtext (k := 2) (R4.z 7 rfl) (R4.z 6 rfl) (by decide) (by decide) (by decide) (by decide) (qv_self (qa))).mono ?_; rintro e w5 ⟨rfl, hb5⟩
  have R5 := (R4.below hb5)
  rw [qaw_ta]
  have k6a0 := R5.cell 3 0 rfl rfl
  have k6a1 := R5.cell 3 1 rfl rfl
  have k6a2 := R5.cell 3 2 rfl rfl
  have k6a3 := R5.cell 3 3 rfl rfl
  have k6b0 := R5.cell 1 0 rfl rfl
  have k6b1 := R5.cell 1 1 rfl rfl
  have k6b2 := R5.cell 1 2 rfl rfl
  have k6b3 := R5.cell 1 3 rfl rfl
  go_wp2_with fail
  clear k6a0 k6a1 k6a2 k6a3 k6b0 k6b1 k6b2 k6b3
  refine (rqsame (R5.z 7 rfl) (R5.z 6 rfl) (R5.z 3 rfl) (R5.z 2 rfl) (by decide) (by decide) (by decide) (by decide) (qsame_eq rfl)).mono ?_; rintro e w6 ⟨rfl, hb6⟩
  have R6 := (R5.below hb6)
  have k7c0 := R6.cell 0 0 rfl rfl
  have k7c1 := R6.cell 0 1 rfl rfl
  have k7c2 := R6.cell 0 2 rfl rfl
  have k7c3 := R6.cell 0 3 rfl rfl
  go_wp2_with fail
  clear k7c0 k7c1 k7c2 k7c3
  refine (qtext (k := 128) (R6.z 1 rfl) (R6.z 0 rfl) (by decide) (by decide) (by decide) (by decide) (qv_self (qc))).mono ?_; rintro e w7 ⟨rfl, hb7⟩
  have R7 := (R6.below hb7)
  rw [qaw_tc]
  have k8a0 := R7.cell 3 0 rfl rfl
  have k8a1 := R7.cell 3 1 rfl rfl
  have k8a2 := R7.cell 3 2 rfl rfl
  have k8a3 := R7.cell 3 3 rfl rfl
  go_wp2_with fail
  clear k8a0 k8a1 k8a2 k8a3
  refine (qfloor (k := 2) (R7.z 7 rfl) (R7.z 6 rfl) (by decide) (by decide) (by decide) (by decide) (qv_self (qa))).mono ?_; rintro e w8 ⟨b_fl, A_fl, n_fl, rfl, z_fl, hb8⟩
  have R8 := ((R7.below hb8).add z_fl)
  go_wp2_with fail
  refine (rzof (-2) _ (by decide) (by decide)).mono ?_; rintro e w9 ⟨b_m2, A_m2, n_m2, c_m2, rfl, z_m2, hb9⟩
  have R9 := ((R8.below hb9).add z_m2)
  go_wp2_with fail
  refine (zsame_v (R9.z 1 rfl) (R9.z 0 rfl) (by decide) (by decide) (decide_eq_true qaw_floor)).mono ?_; rintro e w10 ⟨rfl, hb10⟩
  have R10 := (R9.below hb10)
  have k11a0 := R10.cell 3 0 rfl rfl
  have k11a1 := R10.cell 3 1 rfl rfl
  have k11a2 := R10.cell 3 2 rfl rfl
  have k11a3 := R10.cell 3 3 rfl rfl
  go_wp2_with fail
  clear k11a0 k11a1 k11a2 k11a3
  refine (qceil (k := 2) (R10.z 9 rfl) (R10.z 8 rfl) (by decide) (by decide) (by decide) (by decide) (qv_self (qa))).mono ?_; rintro e w11 ⟨b_ce, A_ce, n_ce, rfl, z_ce, hb11⟩
  have R11 := ((R10.below hb11).add z_ce)
  go_wp2_with fail
  refine (rzof (-1) _ (by decide) (by decide)).mono ?_; rintro e w12 ⟨b_m1, A_m1, n_m1, c_m1, rfl, z_m1, hb12⟩
  have R12 := ((R11.below hb12).add z_m1)
  go_wp2_with fail
  refine (zsame_v (R12.z 1 rfl) (R12.z 0 rfl) (by decide) (by decide) (decide_eq_true qaw_ceil)).mono ?_; rintro e w13 ⟨rfl, hb13⟩
  have R13 := (R12.below hb13)
  have k14a0 := R13.cell 3 0 rfl rfl
  have k14a1 := R13.cell 3 1 rfl rfl
  have k14a2 := R13.cell 3 2 rfl rfl
  have k14a3 := R13.cell 3 3 rfl rfl
  go_wp2_with fail
  clear k14a0 k14a1 k14a2 k14a3
  refine (qfrac_ (k := 2) (R13.z 11 rfl) (R13.z 10 rfl) (by decide) (by decide) (by decide) (by decide) (qv_self (qa))).mono ?_; rintro e w14 ⟨b_fn, A_fn, n_fn, b_fd, A_fd, n_fd, rfl, z_fn, z_fd, hb14⟩
  have R14 := (((R13.below hb14).add z_fn).add z_fd)
  go_wp2_with fail
  refine (qtext (k := 5) (R14.z 1 rfl) (R14.z 0 rfl) (by decide) (by decide) (by decide) (by decide) (qv_self ((qfrac qa)))).mono ?_; rintro e w15 ⟨rfl, hb15⟩
  have R15 := (R14.below hb15)
  rw [qaw_frac, qaw_tc]
  have k16a0 := R15.cell 3 0 rfl rfl
  have k16a1 := R15.cell 3 1 rfl rfl
  have k16a2 := R15.cell 3 2 rfl rfl
  have k16a3 := R15.cell 3 3 rfl rfl
  have k16c0 := R15.cell 0 0 rfl rfl
  have k16c1 := R15.cell 0 1 rfl rfl
  have k16c2 := R15.cell 0 2 rfl rfl
  have k16c3 := R15.cell 0 3 rfl rfl
  go_wp2_with fail
  clear k16a0 k16a1 k16a2 k16a3 k16c0 k16c1 k16c2 k16c3
  refine (qcmp_ (k := 128) (R15.z 13 rfl) (R15.z 12 rfl) (R15.z 7 rfl) (R15.z 6 rfl) (by decide) (by decide) (by decide) (by decide) (by decide) (by decide) (qv_self (qa)) (qv_self (qc)) qaw_cmp).mono ?_; rintro e w16 ⟨rfl, hb16⟩
  have R16 := (R15.below hb16)
  have k17a0 := R16.cell 3 0 rfl rfl
  have k17a1 := R16.cell 3 1 rfl rfl
  have k17a2 := R16.cell 3 2 rfl rfl
  have k17a3 := R16.cell 3 3 rfl rfl
  have k17c0 := R16.cell 0 0 rfl rfl
  have k17c1 := R16.cell 0 1 rfl rfl
  have k17c2 := R16.cell 0 2 rfl rfl
  have k17c3 := R16.cell 0 3 rfl rfl
  go_wp2_with fail
  clear k17a0 k17a1 k17a2 k17a3 k17c0 k17c1 k17c2 k17c3
  refine (qadd (k := 128) (R16.z 13 rfl) (R16.z 12 rfl) (R16.z 7 rfl) (R16.z 6 rfl) (by decide) (by decide) (by decide) (by decide) (by decide) (by decide) (qv_self (qa)) (qv_self (qc))).mono ?_; rintro e w17 ⟨b_sn, A_sn, n_sn, b_sd, A_sd, n_sd, rfl, z_sn, z_sd, hb17⟩
  have R17 := (((R16.below hb17).add z_sn).add z_sd)
  go_wp2_with fail
  refine (qtext (k := 257) (R17.z 1 rfl) (R17.z 0 rfl) (by decide) (by decide) (by decide) (by decide) (qv_self ((qa + qc)))).mono ?_; rintro e w18 ⟨rfl, hb18⟩
  have R18 := (R17.below hb18)
  rw [qaw_add, qaw_tm]
  go_wp2_with fail
  go_ret
  exact ⟨rfl, R18.bel⟩
end Go.Proofs.YticjhlbmdjijnaaGreatDoor
