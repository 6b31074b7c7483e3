/- The law RatioDecimals, walked. No condition. -/
import Derived.Test.YticjhlbmdjijnaaGreatDoorHQAwake
import Derived.Test.YticjhlbmdjijnaaGreatDoorHQT
import Derived.Test.YticjhlbmdjijnaaGreatDoorHQU
import Derived.Test.YticjhlbmdjijnaaGreatDoorHQP2
import Derived.Test.YticjhlbmdjijnaaGreatDoorHQRP2
import Derived.Test.YticjhlbmdjijnaaGreatDoorHQDecMath
namespace Go.Proofs.YticjhlbmdjijnaaGreatDoor
set_option linter.unusedSimpArgs false
set_option linter.unusedVariables false
open Go.RowKit

theorem ten_nine {i : Nat} (h : i ≤ 9) : 10 ^ i ≤ 1000000000 ∧ 0 < 10 ^ i := by
  have h1 : 10 ^ i ≤ 10 ^ 9 := Nat.pow_le_pow_right (by omega) h
  have h2 : (10 : Nat) ^ 9 = 1000000000 := by decide
  have h3 := Nat.pow_pos (n := i) (show 0 < 10 by omega)
  omega
theorem qtx_whole (W : Nat) : qtx (Rat.divInt (W : Int) 1) = decTxt W := by
  obtain ⟨h1, h2⟩ := qdiv_one (W : Int)
  unfold qtx
  rw [if_pos h2, h1, ztx_pos (by omega), Int.natAbs_natCast]
set_option maxRecDepth 100000 in
set_option maxHeartbeats 6400000 in
theorem ratioDecimals_any (n : Int) (k : Nat) (w : World) (hn : -2147483648 ≤ n ∧ n ≤ 2147483647) (hk : k < 256) : Calls Tryz.prog 4 #[.int .i32 n, .int .u8 (k : Int)] w fun e w' => e = .returned (.bool true) ∧ Below w.heap.size w w' := by
  obtain ⟨q, hq⟩ : ∃ q, k % 9 = q := ⟨_, rfl⟩
  obtain ⟨p, hp⟩ : ∃ p, 1 + q = p := ⟨_, rfl⟩
  have hp1 : 1 ≤ p := by omega
  have hp9 : p ≤ 9 := by omega
  have eq1 : Int.tmod (k : Int) 9 = (q : Int) := by rw [Int.tmod_eq_emod_of_nonneg (by omega)]; omega
  have eq2 : (1 : Int) + (q : Int) = (p : Int) := by omega
  obtain ⟨D, hD⟩ : ∃ D, 10 ^ p = D := ⟨_, rfl⟩
  obtain ⟨M, hM⟩ : ∃ M, n.natAbs = M := ⟨_, rfl⟩
  have hDl := ten_nine hp9
  rw [hD] at hDl
  have hMl : M ≤ 2147483648 := by omega
  have HD := Lib.hid hD
  have HM := Lib.hid hM
  clear hq hp hD hM
  go_enter Tryz.func4, Tryz.ntmps4
  go_wp2_with fail
  refine (qawake_any _).mono ?_; rintro e w1 ⟨rfl, hb1⟩
  go_wp2_with fail
  go_loopw [6, 7] (fun dv iv wr => ∃ i : Nat, i ≤ p ∧ iv = .int .i64 (i : Int) ∧ dv = .int .i64 ((10 ^ i : Nat) : Int) ∧ wr = w1) (fun _ iv _ => p - (intOf iv).toNat)
  case atStart => exact ⟨0, Nat.zero_le _, rfl, rfl, rfl⟩
  case round =>
    obtain ⟨i, hi, rfl, rfl, rfl⟩ := hrel
    obtain ⟨X, hX⟩ : ∃ X, 10 ^ i = X := ⟨_, rfl⟩
    have hXl := ten_nine (i := i) (by omega)
    rw [hX] at hXl ⊢
    by_cases hlt : i < p
    · have hlti : (i : Int) < (p : Int) := by omega
      have eX : (X : Int) * 10 = ((X * 10 : Nat) : Int) := by omega
      have eX2 : 10 ^ (i + 1) = X * 10 := by rw [Nat.pow_succ, hX]
      have HX := Lib.hid eX2
      obtain ⟨Y, hY⟩ : ∃ Y, X * 10 = Y := ⟨_, rfl⟩
      have hYl : Y ≤ 10000000000 := by omega
      rw [hY] at eX HX
      clear hX eX2 hY
      go_wp2_with fail
      go_roundw
      case rel => exact ⟨i + 1, by omega, by go_num, by rw [HX.out], trivial⟩
      case measure => simp [intOf]; omega
    · obtain rfl : p = i := by omega
      obtain rfl : D = X := by rw [← hX, HD.out]
      clear hX hXl
      obtain ⟨W, hW⟩ : ∃ W, M / D = W := ⟨_, rfl⟩
      obtain ⟨r, hr⟩ : ∃ r, M % D = r := ⟨_, rfl⟩
      have hWl : W ≤ M := by rw [← hW]; exact Nat.div_le_self _ _
      have hrl : r < 1000000000 := by have := Nat.mod_lt M hDl.2; omega
      have eW : Int.tdiv (M : Int) (D : Int) = (W : Int) := by rw [← hW]; exact Int.ofNat_tdiv M D
      have eR : Int.tmod (M : Int) (D : Int) = (r : Int) := by rw [← hr]; exact Int.ofNat_tmod M D
      have hX0 : ((D : Int) == 0) = false := by have := hDl.2; simp; omega
      have HW := Lib.hid hW
      have Hr := Lib.hid hr
      clear hW hr
      by_cases hneg : n < 0
      · skip
        have eM : -n = (M : Int) := by have := HM.out; omega
        have hsg : sg n = [45] := if_pos hneg
        have hse : str [] = ⟨#[]⟩ := rfl
        have hs4 : str [45] = ⟨#[45]⟩ := rfl
        have HS := Lib.hid hsg
        clear hsg
        go_wp2_with fail
        go_loopw [11, 12, 13] (fun rv tv iv w2 => ∃ i : Nat, i ≤ p ∧ iv = .int .i64 (i : Int) ∧ rv = .int .i64 ((r / 10 ^ i : Nat) : Int) ∧ tv = .string (str (tl i r)) ∧ Below w.heap.size w w2) (fun _ _ iv _ => p - (intOf iv).toNat)
        case atStart => exact ⟨0, Nat.zero_le _, rfl, by rw [Nat.pow_zero, Nat.div_one], rfl, hb1⟩
        case round =>
          obtain ⟨i, hi, rfl, rfl, rfl, hb2⟩ := hrel
          obtain ⟨T, hT⟩ : ∃ T, tl i r = T := ⟨_, rfl⟩
          have hTl : T.length = i := by rw [← hT, tl_len]
          rw [hT]
          by_cases hlt : i < p
          · have hlti : (i : Int) < (p : Int) := by omega
            obtain ⟨x, hx⟩ : ∃ x, r / 10 ^ i = x := ⟨_, rfl⟩
            have hxl : x ≤ r := by rw [← hx]; exact Nat.div_le_self _ _
            obtain ⟨u, hu⟩ : ∃ u, x % 10 = u := ⟨_, rfl⟩
            have e1 : Int.tmod (x : Int) 10 = (u : Int) := by rw [← hu]; exact Int.ofNat_tmod x 10
            obtain ⟨y, hy⟩ : ∃ y, x / 10 = y := ⟨_, rfl⟩
            have e2 : Int.tdiv (x : Int) 10 = (y : Int) := by rw [← hy]; exact Int.ofNat_tdiv x 10
            have ey : wrap64 (y : Int) = (y : Int) := IntWalk.wrap64_in _ (by omega)
            have hy2 : r / 10 ^ (i + 1) = y := by rw [Nat.pow_succ, ← Nat.div_div_eq_div_mul, hx, hy]
            have hul : u < 10 := by omega
            obtain ⟨z, hz⟩ : ∃ z, 48 + u = z := ⟨_, rfl⟩
            have e3 : (48 : Int) + (u : Int) = (z : Int) := by omega
            have hzl : z < 58 := by omega
            have htl : tl (i + 1) r = [z] ++ T := by rw [tl, hx, hu, hz, hT]; rfl
            have HF := Lib.hid (And.intro hy2 htl)
            have kc := fun w0 g hg => conv_one (P := Tryz.prog) 38 9 5 Tryz.underlying38 Tryz.underlying5 Tryz.underlying9 z (by omega) w0 g hg
            have hadd := fun w0 => str_add (P := Tryz.prog) [z] T (by simp; omega) w0
            obtain ⟨S1, hS1⟩ : ∃ S, str T = S := ⟨_, rfl⟩
            obtain ⟨S3, hS3⟩ : ∃ S3, str ([z] ++ T) = S3 := ⟨_, rfl⟩
            simp only [hS1, hS3] at hadd
            rw [hS1, hx]
            have HS3 := Lib.hid hS3
            generalize str [z] = S2 at *
            have hs := hb2.size
            clear hx hu hy hy2 hz htl hT hS1 hS3 hTl
            go_wp2_with fail
            go_roundw
            case rel => exact ⟨i + 1, by omega, by go_num, by rw [HF.out.1, ey], by rw [HF.out.2, HS3.out], hb2.alloc hs _⟩
            case measure => simp [intOf]; omega
          · obtain rfl : p = i := by omega
            have hWM := hMl
            obtain ⟨X, hX⟩ : ∃ X, decTxt W = X := ⟨_, rfl⟩
            have hXl : X.length ≤ 10 := by rw [← hX]; exact decTxt_len 9 W (Nat.lt_of_le_of_lt (Nat.le_trans hWl hMl) (by decide))
            obtain ⟨vw, hvw⟩ : ∃ v, Rat.divInt (W : Int) 1 = v := ⟨_, rfl⟩
            have hqt : qtx vw = X := by rw [← hvw, ← hX]; exact qtx_whole W
            obtain ⟨vn, hvn⟩ : ∃ v, Rat.divInt n (D : Int) = v := ⟨_, rfl⟩
            have hd0 := qdec hn.1 hn.2 hp1 hp9 (j := 0) (by omega)
            have hd2 := qdec hn.1 hn.2 hp1 hp9 (j := 2) (by omega)
            rw [HD.out, hvn] at hd0 hd2
            have hx0 : dtx n p 0 = [45] ++ X ++ [46] ++ T := by unfold dtx; rw [HS.out, HM.out, HD.out, HW.out, Hr.out, hX, hT]; simp
            have hx2 : dtx n p 2 = [45] ++ X ++ [46] ++ T ++ [48, 48] := by unfold dtx; rw [HS.out, HM.out, HD.out, HW.out, Hr.out, hX, hT]; simp [List.replicate]
            rw [hx0] at hd0
            rw [hx2] at hd2
            have hXd : ∀ c ∈ X, c < 256 := fun c hc => by have := (dec_decTxt W).2.1 c (by rw [hX]; exact hc); omega
            have hTd : ∀ c ∈ T, c < 256 := fun c hc => by have := tl_digs r p c (by rw [hT]; exact hc); omega
            have hl0 : ∀ c ∈ [45] ++ X ++ [46] ++ T, c < 256 := by
              intro c hc
              simp only [List.mem_append, List.mem_cons, List.not_mem_nil, or_false, false_or] at hc
              rcases hc with ((h | h) | h) | h
              · omega
              · exact hXd c h
              · omega
              · exact hTd c h
            have hl2 : ∀ c ∈ [45] ++ X ++ [46] ++ T ++ [48, 48], c < 256 := by
              intro c hc
              rcases List.mem_append.1 hc with h | h
              · exact hl0 c h
              · simp only [List.mem_cons, List.not_mem_nil, or_false] at h; omega
            have hpa := fun w0 => qparse ([45] ++ X ++ [46] ++ T) hl0 w0 (by simp; omega)
            have hpb := fun w0 => qparse ([45] ++ X ++ [46] ++ T ++ [48, 48]) hl2 w0 (by simp; omega)
            simp only [hd0.1, hd0.2] at hpa
            simp only [hd2.1, hd2.2] at hpb
            have ha1 := fun w0 => str_add (P := Tryz.prog) [45] X (by simp; omega) w0
            have ha2 := fun w0 => str_add (P := Tryz.prog) ([45] ++ X) [46] (by simp; omega) w0
            have ha3 := fun w0 => str_add (P := Tryz.prog) ([45] ++ X ++ [46]) T (by simp; omega) w0
            have ha4 := fun w0 => str_add (P := Tryz.prog) ([45] ++ X ++ [46] ++ T) [48, 48] (by simp; omega) w0
            have hse0 : str [45] = (⟨#[45]⟩ : ByteArray) := rfl
            have hse1 : str [46] = (⟨#[46]⟩ : ByteArray) := rfl
            have hse2 : str [48, 48] = (⟨#[48, 48]⟩ : ByteArray) := rfl
            have hrt := fun {wx a b A B n c m d x y i j p q} ha hb => @rqtext wx a b A B n c m d x y i j p q ha hb 3
            generalize str ([45] ++ X ++ [46] ++ T ++ [48, 48]) = S4 at *
            generalize str ([45] ++ X ++ [46] ++ T) = S3 at *
            generalize str ([45] ++ X ++ [46]) = S2 at *
            generalize str ([45] ++ X) = S1 at *
            rw [hse0] at ha1
            rw [hse1] at ha2
            rw [hse2] at ha4
            obtain ⟨SX, hSX⟩ : ∃ S, str X = S := ⟨_, rfl⟩
            obtain ⟨ST, hST⟩ : ∃ S, str T = S := ⟨_, rfl⟩
            rw [hSX] at ha1
            rw [hST] at ha3 ⊢
            have hqs : str (qtx vw) = SX := by rw [hqt, hSX]
            have HVW := Lib.hid hvw
            have HVN := Lib.hid hvn
            have HQS := Lib.hid hqs
            have HBn : -9223372036854775808 ≤ n ∧ n ≤ 9223372036854775807 := by omega
            have HBW : -9223372036854775808 ≤ (W : Int) ∧ (W : Int) ≤ 9223372036854775807 := by omega
            have HBD : -9223372036854775808 ≤ (D : Int) ∧ (D : Int) ≤ 9223372036854775807 := by omega
            have HB := Lib.hid (And.intro HBn (And.intro HBW HBD))
            have HD0 := Lib.hid (show decide ((D : Int) ≠ 0) = true by have := hDl.2; simp; omega)
            have R0 := (Env.nil_ w).below hb2
            clear hX hqt hvw hvn hd0 hd2 hx0 hx2 hXd hTd hl0 hl2 hse0 hse1 hse2 hSX hST hqs HBn HBW HBD hrt hT hTl hXl hb2
            go_wp2_with fail
            refine (rqof (W : Int) 1 HB.out.2.1 ⟨by decide, by decide⟩ _ HVW.out (by decide : decide ((1 : Int) ≠ 0) = true)).mono ?_; rintro e w1 ⟨b_hn, A_hn, n_hn, c_hn, b_hd, A_hd, n_hd, c_hd, rfl, z_hn, z_hd, hb1⟩
            have R1 := ((((R0.below hb1).add z_hn).add z_hd).alloc 26 #[.bool b_hn, .slice A_hn n_hn c_hn, .bool b_hd, .slice A_hd n_hd c_hd] (g := w1.heap.size) rfl rfl)
            clear z_hn z_hd hb1 R0
            go_wp2_with fail
            refine (rqof n (D : Int) HB.out.1 HB.out.2.2 _ HVN.out HD0.out).mono ?_; rintro e w2 ⟨b_vn, A_vn, n_vn, c_vn, b_vd, A_vd, n_vd, c_vd, rfl, z_vn, z_vd, hb2⟩
            have R2 := ((((R1.below hb2).add z_vn).add z_vd).alloc 26 #[.bool b_vn, .slice A_vn n_vn c_vn, .bool b_vd, .slice A_vd n_vd c_vd] (g := w2.heap.size) rfl rfl)
            clear z_vn z_vd hb2 R1
            have k3h0 := R2.cell 1 0 rfl rfl
            have k3h1 := R2.cell 1 1 rfl rfl
            have k3h2 := R2.cell 1 2 rfl rfl
            have k3h3 := R2.cell 1 3 rfl rfl
            go_wp2_with fail
            clear k3h0 k3h1 k3h2 k3h3
            refine (rqtext (k := 3) (R2.z 3 rfl) (R2.z 2 rfl) (by decide) (by decide) (by decide) (by decide) (qv_self (vw))).mono ?_; rintro e w3 ⟨rfl, hb3⟩
            have R3 := (R2.below hb3)
            clear hb3 R2
            rw [HQS.out]
            go_wp2_with fail
            refine (hpa _).mono ?_; rintro e w4 ⟨b_an, A_an, n_an, b_ad, A_ad, n_ad, rfl, z_an, z_ad, hb4⟩
            have R4 := ((((R3.below hb4).add z_an).add z_ad).alloc 26 #[.bool b_an, .slice A_an n_an n_an, .bool b_ad, .slice A_ad n_ad n_ad] (g := w4.heap.size) rfl rfl)
            clear z_an z_ad hb4 R3
            have k5h0 := R4.cell 2 0 rfl rfl
            have k5h1 := R4.cell 2 1 rfl rfl
            have k5h2 := R4.cell 2 2 rfl rfl
            have k5h3 := R4.cell 2 3 rfl rfl
            go_wp2_with fail
            clear k5h0 k5h1 k5h2 k5h3
            refine (rqtext (k := 3) (R4.z 5 rfl) (R4.z 4 rfl) (by decide) (by decide) (by decide) (by decide) (qv_self (vw))).mono ?_; rintro e w5 ⟨rfl, hb5⟩
            have R5 := (R4.below hb5)
            clear hb5 R4
            rw [HQS.out]
            go_wp2_with fail
            refine (hpb _).mono ?_; rintro e w6 ⟨b_bn, A_bn, n_bn, b_bd, A_bd, n_bd, rfl, z_bn, z_bd, hb6⟩
            have R6 := ((((R5.below hb6).add z_bn).add z_bd).alloc 26 #[.bool b_bn, .slice A_bn n_bn n_bn, .bool b_bd, .slice A_bd n_bd n_bd] (g := w6.heap.size) rfl rfl)
            clear z_bn z_bd hb6 R5
            have k7a0 := R6.cell 1 0 rfl rfl
            have k7a1 := R6.cell 1 1 rfl rfl
            have k7a2 := R6.cell 1 2 rfl rfl
            have k7a3 := R6.cell 1 3 rfl rfl
            have k7v0 := R6.cell 2 0 rfl rfl
            have k7v1 := R6.cell 2 1 rfl rfl
            have k7v2 := R6.cell 2 2 rfl rfl
            have k7v3 := R6.cell 2 3 rfl rfl
            go_wp2_with fail
            clear k7a0 k7a1 k7a2 k7a3 k7v0 k7v1 k7v2 k7v3
            refine (rqsame (R6.z 3 rfl) (R6.z 2 rfl) (R6.z 5 rfl) (R6.z 4 rfl) (by decide) (by decide) (by decide) (by decide) (qsame_eq rfl)).mono ?_; rintro e w7 ⟨rfl, hb7⟩
            have R7 := (R6.below hb7)
            clear hb7 R6
            have k8b0 := R7.cell 0 0 rfl rfl
            have k8b1 := R7.cell 0 1 rfl rfl
            have k8b2 := R7.cell 0 2 rfl rfl
            have k8b3 := R7.cell 0 3 rfl rfl
            have k8v0 := R7.cell 2 0 rfl rfl
            have k8v1 := R7.cell 2 1 rfl rfl
            have k8v2 := R7.cell 2 2 rfl rfl
            have k8v3 := R7.cell 2 3 rfl rfl
            go_wp2_with fail
            clear k8b0 k8b1 k8b2 k8b3 k8v0 k8v1 k8v2 k8v3
            refine (rqsame (R7.z 1 rfl) (R7.z 0 rfl) (R7.z 5 rfl) (R7.z 4 rfl) (by decide) (by decide) (by decide) (by decide) (qsame_eq rfl)).mono ?_; rintro e w8 ⟨rfl, hb8⟩
            have R8 := (R7.below hb8)
            clear hb8 R7
            go_wp2_with fail
            go_ret
            exact ⟨rfl, R8.bel⟩
      · skip
        have hsg : sg n = [] := if_neg hneg
        obtain rfl : n = (M : Int) := by have := HM.out; omega
        have hnn : ¬ (M : Int) < 0 := hneg
        have hnd : decide ((M : Int) < 0) = false := decide_eq_false hnn
        have hse : str [] = ⟨#[]⟩ := rfl
        have hs4 : str [45] = ⟨#[45]⟩ := rfl
        have HS := Lib.hid hsg
        clear hsg
        go_wp2_with fail
        go_loopw [11, 12, 13] (fun rv tv iv w2 => ∃ i : Nat, i ≤ p ∧ iv = .int .i64 (i : Int) ∧ rv = .int .i64 ((r / 10 ^ i : Nat) : Int) ∧ tv = .string (str (tl i r)) ∧ Below w.heap.size w w2) (fun _ _ iv _ => p - (intOf iv).toNat)
        case atStart => exact ⟨0, Nat.zero_le _, rfl, by rw [Nat.pow_zero, Nat.div_one], rfl, hb1⟩
        case round =>
          obtain ⟨i, hi, rfl, rfl, rfl, hb2⟩ := hrel
          obtain ⟨T, hT⟩ : ∃ T, tl i r = T := ⟨_, rfl⟩
          have hTl : T.length = i := by rw [← hT, tl_len]
          rw [hT]
          by_cases hlt : i < p
          · have hlti : (i : Int) < (p : Int) := by omega
            obtain ⟨x, hx⟩ : ∃ x, r / 10 ^ i = x := ⟨_, rfl⟩
            have hxl : x ≤ r := by rw [← hx]; exact Nat.div_le_self _ _
            obtain ⟨u, hu⟩ : ∃ u, x % 10 = u := ⟨_, rfl⟩
            have e1 : Int.tmod (x : Int) 10 = (u : Int) := by rw [← hu]; exact Int.ofNat_tmod x 10
            obtain ⟨y, hy⟩ : ∃ y, x / 10 = y := ⟨_, rfl⟩
            have e2 : Int.tdiv (x : Int) 10 = (y : Int) := by rw [← hy]; exact Int.ofNat_tdiv x 10
            have ey : wrap64 (y : Int) = (y : Int) := IntWalk.wrap64_in _ (by omega)
            have hy2 : r / 10 ^ (i + 1) = y := by rw [Nat.pow_succ, ← Nat.div_div_eq_div_mul, hx, hy]
            have hul : u < 10 := by omega
            obtain ⟨z, hz⟩ : ∃ z, 48 + u = z := ⟨_, rfl⟩
            have e3 : (48 : Int) + (u : Int) = (z : Int) := by omega
            have hzl : z < 58 := by omega
            have htl : tl (i + 1) r = [z] ++ T := by rw [tl, hx, hu, hz, hT]; rfl
            have HF := Lib.hid (And.intro hy2 htl)
            have kc := fun w0 g hg => conv_one (P := Tryz.prog) 38 9 5 Tryz.underlying38 Tryz.underlying5 Tryz.underlying9 z (by omega) w0 g hg
            have hadd := fun w0 => str_add (P := Tryz.prog) [z] T (by simp; omega) w0
            obtain ⟨S1, hS1⟩ : ∃ S, str T = S := ⟨_, rfl⟩
            obtain ⟨S3, hS3⟩ : ∃ S3, str ([z] ++ T) = S3 := ⟨_, rfl⟩
            simp only [hS1, hS3] at hadd
            rw [hS1, hx]
            have HS3 := Lib.hid hS3
            generalize str [z] = S2 at *
            have hs := hb2.size
            clear hx hu hy hy2 hz htl hT hS1 hS3 hTl
            go_wp2_with fail
            go_roundw
            case rel => exact ⟨i + 1, by omega, by go_num, by rw [HF.out.1, ey], by rw [HF.out.2, HS3.out], hb2.alloc hs _⟩
            case measure => simp [intOf]; omega
          · obtain rfl : p = i := by omega
            have hWM := hMl
            obtain ⟨X, hX⟩ : ∃ X, decTxt W = X := ⟨_, rfl⟩
            have hXl : X.length ≤ 10 := by rw [← hX]; exact decTxt_len 9 W (Nat.lt_of_le_of_lt (Nat.le_trans hWl hMl) (by decide))
            obtain ⟨vw, hvw⟩ : ∃ v, Rat.divInt (W : Int) 1 = v := ⟨_, rfl⟩
            have hqt : qtx vw = X := by rw [← hvw, ← hX]; exact qtx_whole W
            obtain ⟨vn, hvn⟩ : ∃ v, Rat.divInt (M : Int) (D : Int) = v := ⟨_, rfl⟩
            have hd0 := qdec hn.1 hn.2 hp1 hp9 (j := 0) (by omega)
            have hd2 := qdec hn.1 hn.2 hp1 hp9 (j := 2) (by omega)
            rw [HD.out, hvn] at hd0 hd2
            have hx0 : dtx (M : Int) p 0 = [] ++ X ++ [46] ++ T := by unfold dtx; rw [HS.out, HM.out, HD.out, HW.out, Hr.out, hX, hT]; simp
            have hx2 : dtx (M : Int) p 2 = [] ++ X ++ [46] ++ T ++ [48, 48] := by unfold dtx; rw [HS.out, HM.out, HD.out, HW.out, Hr.out, hX, hT]; simp [List.replicate]
            rw [hx0] at hd0
            rw [hx2] at hd2
            have hXd : ∀ c ∈ X, c < 256 := fun c hc => by have := (dec_decTxt W).2.1 c (by rw [hX]; exact hc); omega
            have hTd : ∀ c ∈ T, c < 256 := fun c hc => by have := tl_digs r p c (by rw [hT]; exact hc); omega
            have hl0 : ∀ c ∈ [] ++ X ++ [46] ++ T, c < 256 := by
              intro c hc
              simp only [List.mem_append, List.mem_cons, List.not_mem_nil, or_false, false_or] at hc
              rcases hc with (h | h) | h
              · exact hXd c h
              · omega
              · exact hTd c h
            have hl2 : ∀ c ∈ [] ++ X ++ [46] ++ T ++ [48, 48], c < 256 := by
              intro c hc
              rcases List.mem_append.1 hc with h | h
              · exact hl0 c h
              · simp only [List.mem_cons, List.not_mem_nil, or_false] at h; omega
            have hpa := fun w0 => qparse ([] ++ X ++ [46] ++ T) hl0 w0 (by simp; omega)
            have hpb := fun w0 => qparse ([] ++ X ++ [46] ++ T ++ [48, 48]) hl2 w0 (by simp; omega)
            simp only [hd0.1, hd0.2] at hpa
            simp only [hd2.1, hd2.2] at hpb
            have ha1 := fun w0 => str_add (P := Tryz.prog) [] X (by simp; omega) w0
            have ha2 := fun w0 => str_add (P := Tryz.prog) ([] ++ X) [46] (by simp; omega) w0
            have ha3 := fun w0 => str_add (P := Tryz.prog) ([] ++ X ++ [46]) T (by simp; omega) w0
            have ha4 := fun w0 => str_add (P := Tryz.prog) ([] ++ X ++ [46] ++ T) [48, 48] (by simp; omega) w0
            have hse0 : str [] = (⟨#[]⟩ : ByteArray) := rfl
            have hse1 : str [46] = (⟨#[46]⟩ : ByteArray) := rfl
            have hse2 : str [48, 48] = (⟨#[48, 48]⟩ : ByteArray) := rfl
            have hrt := fun {wx a b A B n c m d x y i j p q} ha hb => @rqtext wx a b A B n c m d x y i j p q ha hb 3
            generalize str ([] ++ X ++ [46] ++ T ++ [48, 48]) = S4 at *
            generalize str ([] ++ X ++ [46] ++ T) = S3 at *
            generalize str ([] ++ X ++ [46]) = S2 at *
            generalize str ([] ++ X) = S1 at *
            rw [hse0] at ha1
            rw [hse1] at ha2
            rw [hse2] at ha4
            obtain ⟨SX, hSX⟩ : ∃ S, str X = S := ⟨_, rfl⟩
            obtain ⟨ST, hST⟩ : ∃ S, str T = S := ⟨_, rfl⟩
            rw [hSX] at ha1
            rw [hST] at ha3 ⊢
            have hqs : str (qtx vw) = SX := by rw [hqt, hSX]
            have HVW := Lib.hid hvw
            have HVN := Lib.hid hvn
            have HQS := Lib.hid hqs
            have HBn : -9223372036854775808 ≤ (M : Int) ∧ (M : Int) ≤ 9223372036854775807 := by omega
            have HBW : -9223372036854775808 ≤ (W : Int) ∧ (W : Int) ≤ 9223372036854775807 := by omega
            have HBD : -9223372036854775808 ≤ (D : Int) ∧ (D : Int) ≤ 9223372036854775807 := by omega
            have HB := Lib.hid (And.intro HBn (And.intro HBW HBD))
            have HD0 := Lib.hid (show decide ((D : Int) ≠ 0) = true by have := hDl.2; simp; omega)
            have R0 := (Env.nil_ w).below hb2
            clear hX hqt hvw hvn hd0 hd2 hx0 hx2 hXd hTd hl0 hl2 hse0 hse1 hse2 hSX hST hqs HBn HBW HBD hrt hT hTl hXl hb2
            go_wp2_with fail
            refine (rqof (W : Int) 1 HB.out.2.1 ⟨by decide, by decide⟩ _ HVW.out (by decide : decide ((1 : Int) ≠ 0) = true)).mono ?_; rintro e w1 ⟨b_hn, A_hn, n_hn, c_hn, b_hd, A_hd, n_hd, c_hd, rfl, z_hn, z_hd, hb1⟩
            have R1 := ((((R0.below hb1).add z_hn).add z_hd).alloc 26 #[.bool b_hn, .slice A_hn n_hn c_hn, .bool b_hd, .slice A_hd n_hd c_hd] (g := w1.heap.size) rfl rfl)
            clear z_hn z_hd hb1 R0
            go_wp2_with fail
            refine (rqof (M : Int) (D : Int) HB.out.1 HB.out.2.2 _ HVN.out HD0.out).mono ?_; rintro e w2 ⟨b_vn, A_vn, n_vn, c_vn, b_vd, A_vd, n_vd, c_vd, rfl, z_vn, z_vd, hb2⟩
            have R2 := ((((R1.below hb2).add z_vn).add z_vd).alloc 26 #[.bool b_vn, .slice A_vn n_vn c_vn, .bool b_vd, .slice A_vd n_vd c_vd] (g := w2.heap.size) rfl rfl)
            clear z_vn z_vd hb2 R1
            have k3h0 := R2.cell 1 0 rfl rfl
            have k3h1 := R2.cell 1 1 rfl rfl
            have k3h2 := R2.cell 1 2 rfl rfl
            have k3h3 := R2.cell 1 3 rfl rfl
            go_wp2_with fail
            clear k3h0 k3h1 k3h2 k3h3
            refine (rqtext (k := 3) (R2.z 3 rfl) (R2.z 2 rfl) (by decide) (by decide) (by decide) (by decide) (qv_self (vw))).mono ?_; rintro e w3 ⟨rfl, hb3⟩
            have R3 := (R2.below hb3)
            clear hb3 R2
            rw [HQS.out]
            go_wp2_with fail
            refine (hpa _).mono ?_; rintro e w4 ⟨b_an, A_an, n_an, b_ad, A_ad, n_ad, rfl, z_an, z_ad, hb4⟩
            have R4 := ((((R3.below hb4).add z_an).add z_ad).alloc 26 #[.bool b_an, .slice A_an n_an n_an, .bool b_ad, .slice A_ad n_ad n_ad] (g := w4.heap.size) rfl rfl)
            clear z_an z_ad hb4 R3
            have k5h0 := R4.cell 2 0 rfl rfl
            have k5h1 := R4.cell 2 1 rfl rfl
            have k5h2 := R4.cell 2 2 rfl rfl
            have k5h3 := R4.cell 2 3 rfl rfl
            go_wp2_with fail
            clear k5h0 k5h1 k5h2 k5h3
            refine (rqtext (k := 3) (R4.z 5 rfl) (R4.z 4 rfl) (by decide) (by decide) (by decide) (by decide) (qv_self (vw))).mono ?_; rintro e w5 ⟨rfl, hb5⟩
            have R5 := (R4.below hb5)
            clear hb5 R4
            rw [HQS.out]
            go_wp2_with fail
            refine (hpb _).mono ?_; rintro e w6 ⟨b_bn, A_bn, n_bn, b_bd, A_bd, n_bd, rfl, z_bn, z_bd, hb6⟩
            have R6 := ((((R5.below hb6).add z_bn).add z_bd).alloc 26 #[.bool b_bn, .slice A_bn n_bn n_bn, .bool b_bd, .slice A_bd n_bd n_bd] (g := w6.heap.size) rfl rfl)
            clear z_bn z_bd hb6 R5
            have k7a0 := R6.cell 1 0 rfl rfl
            have k7a1 := R6.cell 1 1 rfl rfl
            have k7a2 := R6.cell 1 2 rfl rfl
            have k7a3 := R6.cell 1 3 rfl rfl
            have k7v0 := R6.cell 2 0 rfl rfl
            have k7v1 := R6.cell 2 1 rfl rfl
            have k7v2 := R6.cell 2 2 rfl rfl
            have k7v3 := R6.cell 2 3 rfl rfl
            go_wp2_with fail
            clear k7a0 k7a1 k7a2 k7a3 k7v0 k7v1 k7v2 k7v3
            refine (rqsame (R6.z 3 rfl) (R6.z 2 rfl) (R6.z 5 rfl) (R6.z 4 rfl) (by decide) (by decide) (by decide) (by decide) (qsame_eq rfl)).mono ?_; rintro e w7 ⟨rfl, hb7⟩
            have R7 := (R6.below hb7)
            clear hb7 R6
            have k8b0 := R7.cell 0 0 rfl rfl
            have k8b1 := R7.cell 0 1 rfl rfl
            have k8b2 := R7.cell 0 2 rfl rfl
            have k8b3 := R7.cell 0 3 rfl rfl
            have k8v0 := R7.cell 2 0 rfl rfl
            have k8v1 := R7.cell 2 1 rfl rfl
            have k8v2 := R7.cell 2 2 rfl rfl
            have k8v3 := R7.cell 2 3 rfl rfl
            go_wp2_with fail
            clear k8b0 k8b1 k8b2 k8b3 k8v0 k8v1 k8v2 k8v3
            refine (rqsame (R7.z 1 rfl) (R7.z 0 rfl) (R7.z 5 rfl) (R7.z 4 rfl) (by decide) (by decide) (by decide) (by decide) (qsame_eq rfl)).mono ?_; rintro e w8 ⟨rfl, hb8⟩
            have R8 := (R7.below hb8)
            clear hb8 R7
            go_wp2_with fail
            go_ret
            exact ⟨rfl, R8.bel⟩
end Go.Proofs.YticjhlbmdjijnaaGreatDoor
