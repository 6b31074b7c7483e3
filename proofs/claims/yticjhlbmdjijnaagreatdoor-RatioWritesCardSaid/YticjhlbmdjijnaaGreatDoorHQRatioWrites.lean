/- The law RatioWrites, walked. No condition but the reach of a slice. No condition but the reach of a slice. -/
import Derived.Test.YticjhlbmdjijnaaGreatDoorHQAwake
import Derived.Test.YticjhlbmdjijnaaGreatDoorHQFew
import Derived.Test.YticjhlbmdjijnaaGreatDoorHQT
import Derived.Test.YticjhlbmdjijnaaGreatDoorHQU
import Derived.Test.YticjhlbmdjijnaaGreatDoorHQV
import Derived.Test.YticjhlbmdjijnaaGreatDoorHQP2
import Derived.Test.YticjhlbmdjijnaaGreatDoorHQRP2
import Derived.Test.YticjhlbmdjijnaaGreatDoorHQBack
namespace Go.Proofs.YticjhlbmdjijnaaGreatDoor
set_option linter.unusedSimpArgs false
set_option linter.unusedVariables false
open Go.RowKit

theorem bstr_self (T : ByteArray) : (T == T) = true := by
  cases T with | mk d =>
  show (d == d) = true
  simp
theorem qv_lt {x y : Int} {K : Nat} (h1 : 1 ≤ K) (hx : x.natAbs < 4294967296 ^ K) (hy : y.natAbs < 4294967296 ^ K) : (qv x y).num.natAbs < 4294967296 ^ K ∧ (((qv x y).den : Nat) : Int).natAbs < 4294967296 ^ K := by
  by_cases h : 0 < y
  · rw [qv_pos h]; exact ⟨qnum_lt h hx, qden_lt h hy⟩
  · have e : qv x y = 0 := by unfold qv; exact if_neg h
    rw [e]
    have hk : 4294967296 ^ 1 ≤ 4294967296 ^ K := Nat.pow_le_pow_right (by decide) h1
    exact ⟨Nat.lt_of_lt_of_le (by decide) hk, Nat.lt_of_lt_of_le (by decide) hk⟩
set_option maxRecDepth 100000 in
set_option maxHeartbeats 25600000 in
theorem ratioWrites_any (ba : Bool) (Aa : Option Addr) (na ca : Nat) (la : List Nat) (ba' : Bool) (Aa' : Option Addr) (na' ca' : Nat) (la' : List Nat) (ss : ByteArray) (Ab : Option Addr) (nb cb : Nat) (lb : List Nat) (w : World) (hra : Lim w Aa na ca la) (hna : na ≤ maxLen) (hra' : Lim w Aa' na' ca' la') (hna' : na' ≤ maxLen) (hss : ss.size ≤ 9223372036854775807) (hrb : Byt w Ab nb cb lb) (hnb : nb ≤ maxLen) : Calls Tryz.prog 10 #[.agg #[.bool ba, .slice Aa na ca, .bool ba', .slice Aa' na' ca'], .string ss, .slice Ab nb cb] w fun e w' => e = .returned (.bool true) ∧ Below w.heap.size w w' := by
  unfold maxLen at hnb
  obtain ⟨ls, hls, hl256⟩ : ∃ l, ss = str l ∧ ∀ x ∈ l, x < 256 := ⟨bl ss, (str_bl ss).symm, bl_lt ss⟩
  subst hls
  obtain ⟨ns, hns⟩ : ∃ n, ls.length = n := ⟨_, rfl⟩
  have hS : (str ls).size = ns := by rw [str_size, hns]
  by_cases hfa : ¬ (na ≤ 4 ∧ na' ≤ 4)
  · have R0 := ((Env.nil_ w).alloc 26 #[.bool ba, .slice Aa na ca, .bool ba', .slice Aa' na' ca'] (g := w.heap.size) rfl rfl)
    generalize str ls = S at *
    have HF := Lib.hid hfa
    clear hfa
    go_enter Tryz.func10, Tryz.ntmps10
    go_wp2_with fail
    refine (qawake_any _).mono ?_; rintro e w1 ⟨rfl, hb1⟩
    have R1 := (R0.below hb1)
    clear hb1 R0
    have k2a0 := R1.cell 0 0 rfl rfl
    have k2a1 := R1.cell 0 1 rfl rfl
    have k2a2 := R1.cell 0 2 rfl rfl
    have k2a3 := R1.cell 0 3 rfl rfl
    go_wp2_with fail
    clear k2a0 k2a1 k2a2 k2a3
    refine (qfew _ _ _ _ _ _ _ _ _).mono ?_; rintro e w2 ⟨rfl, hb2⟩
    have R2 := (R1.below hb2)
    clear hb2 R1
    rw [decide_eq_false HF.out]
    go_wp2_with fail
    go_ret
    exact ⟨rfl, R2.bel⟩
  have hfa := Lib.hid (Classical.not_not.1 hfa)
  by_cases h1 : 200 < ns
  · have R0 := ((Env.nil_ w).alloc 26 #[.bool ba, .slice Aa na ca, .bool ba', .slice Aa' na' ca'] (g := w.heap.size) rfl rfl)
    generalize str ls = S at *
    go_enter Tryz.func10, Tryz.ntmps10
    go_wp2_with fail
    refine (qawake_any _).mono ?_; rintro e w1 ⟨rfl, hb1⟩
    have R1 := (R0.below hb1)
    clear hb1 R0
    have k2a0 := R1.cell 0 0 rfl rfl
    have k2a1 := R1.cell 0 1 rfl rfl
    have k2a2 := R1.cell 0 2 rfl rfl
    have k2a3 := R1.cell 0 3 rfl rfl
    go_wp2_with fail
    clear k2a0 k2a1 k2a2 k2a3
    refine (qfew _ _ _ _ _ _ _ _ _).mono ?_; rintro e w2 ⟨rfl, hb2⟩
    have R2 := (R1.below hb2)
    clear hb2 R1
    rw [decide_eq_true hfa.out]
    go_wp2_with fail
    go_ret
    exact ⟨rfl, R2.bel⟩
  by_cases h2 : 1000 < nb
  · have R0 := ((Env.nil_ w).alloc 26 #[.bool ba, .slice Aa na ca, .bool ba', .slice Aa' na' ca'] (g := w.heap.size) rfl rfl)
    generalize str ls = S at *
    go_enter Tryz.func10, Tryz.ntmps10
    go_wp2_with fail
    refine (qawake_any _).mono ?_; rintro e w1 ⟨rfl, hb1⟩
    have R1 := (R0.below hb1)
    clear hb1 R0
    have k2a0 := R1.cell 0 0 rfl rfl
    have k2a1 := R1.cell 0 1 rfl rfl
    have k2a2 := R1.cell 0 2 rfl rfl
    have k2a3 := R1.cell 0 3 rfl rfl
    go_wp2_with fail
    clear k2a0 k2a1 k2a2 k2a3
    refine (qfew _ _ _ _ _ _ _ _ _).mono ?_; rintro e w2 ⟨rfl, hb2⟩
    have R2 := (R1.below hb2)
    clear hb2 R1
    rw [decide_eq_true hfa.out]
    go_wp2_with fail
    go_ret
    exact ⟨rfl, R2.bel⟩
  have zan := ZIs.of_lim (b := ba) (k := 4) hra hfa.out.1
  have zad := ZIs.of_lim (b := ba') (k := 4) hra' hfa.out.2
  generalize zv ba (vl la) = xa at zan
  generalize zv ba' (vl la') = ya at zad
  obtain ⟨ra, hra_⟩ : ∃ r, qv xa ya = r := ⟨_, rfl⟩
  have Ha := Lib.hid hra_
  have hlt := qv_lt (by decide) zan.lt zad.lt
  rw [hra_] at hlt
  clear hra_ hra hra' hna hna'
  have hp := fun w0 => qparse ls hl256 w0 (by omega)
  have hrp := fun w0 => rqparse ls hl256 w0 (by omega)
  obtain ⟨okv, hokv⟩ : ∃ b, qpok ls = b := ⟨_, rfl⟩
  rw [hokv] at hp hrp
  obtain ⟨rp, hrp_⟩ : ∃ b, qpv ls = b := ⟨_, rfl⟩
  rw [hrp_] at hp hrp
  obtain ⟨hx1, hx2, hx3, hx4⟩ := qtx_back ra 38 (Nat.lt_trans hlt.1 (by decide)) (by have := Nat.lt_trans hlt.2 (by decide : 4294967296 ^ 4 < 10 ^ 39); rwa [Int.natAbs_natCast] at this) (by decide)
  have hpt := fun w0 => qparse (qtx ra) hx3 w0 (by omega)
  rw [hx1, hx2] at hpt
  have hz := qread_enc ra [] (Nat.le_trans (Num.dig_len_le (by decide) 4 _ hlt.1) (by decide)) (Nat.le_trans (Num.dig_len_le (by decide) 4 _ hlt.2) (by decide))
  rw [List.append_nil] at hz
  have hrx := fun A n c w0 h0 hn => qread A n c (qenc ra) w0 h0 hn
  simp only [hz.1, hz.2.1, hz.2.2] at hrx
  have Yb0 := hrb.alloc (.cells #[.bool ba, .slice Aa na ca, .bool ba', .slice Aa' na' ca'] 26)
  obtain ⟨rok, hrok⟩ : ∃ b, qrok lb = b := ⟨_, rfl⟩
  obtain ⟨rn, hrn⟩ : ∃ b, qrv lb = b := ⟨_, rfl⟩
  have hrd := fun w0 h0 => qread Ab nb cb lb w0 h0 (by omega)
  have hrrd := fun w0 h0 => rqread Ab nb cb lb w0 h0 (by omega)
  rw [hrok, hrn] at hrd hrrd
  clear hokv hrok hrp_ hrn hx1 hx2 hx3 hx4 hlt hns hl256 hrb hz
  obtain ⟨T, hT⟩ : ∃ T, str (qtx ra) = T := ⟨_, rfl⟩
  rw [hT] at hpt
  have HT := Lib.hid hT
  clear hT
  generalize str ls = S at *
  have e1 : (T != T) = false := by rw [bne, bstr_self]; rfl
  have e2 : (okv != okv) = false := by simp
  have e3 : (rok != rok) = false := by simp
  have R0 := ((((Env.nil_ w).add zan).add zad).alloc 26 #[.bool ba, .slice Aa na ca, .bool ba', .slice Aa' na' ca'] (g := w.heap.size) rfl rfl)
  clear zan zad
  go_enter Tryz.func10, Tryz.ntmps10
  go_wp2_with fail
  refine (qawake_any _).mono ?_; rintro e w1 ⟨rfl, hb1⟩
  have R1 := (R0.below hb1)
  have Yb1 := (Yb0.below hb1)
  have k2a0 := R1.cell 0 0 rfl rfl
  have k2a1 := R1.cell 0 1 rfl rfl
  have k2a2 := R1.cell 0 2 rfl rfl
  have k2a3 := R1.cell 0 3 rfl rfl
  go_wp2_with fail
  clear k2a0 k2a1 k2a2 k2a3
  refine (qfew _ _ _ _ _ _ _ _ _).mono ?_; rintro e w2 ⟨rfl, hb2⟩
  have R2 := (R1.below hb2)
  have Yb2 := (Yb1.below hb2)
  rw [decide_eq_true hfa.out]
  go_wp2_with fail
  refine (hp _).mono ?_; rintro e w3 ⟨b_pn, A_pn, n_pn, b_pd, A_pd, n_pd, rfl, z_pn, z_pd, hb3⟩
  have R3 := ((((R2.below hb3).add z_pn).add z_pd).alloc 26 #[.bool b_pn, .slice A_pn n_pn n_pn, .bool b_pd, .slice A_pd n_pd n_pd] (g := w3.heap.size) rfl rfl)
  have Yb3 := ((Yb2.below hb3).alloc (.cells #[.bool b_pn, .slice A_pn n_pn n_pn, .bool b_pd, .slice A_pd n_pd n_pd] 26))
  go_wp2_with fail
  refine (hrp _).mono ?_; rintro e w4 ⟨b_qn, A_qn, n_qn, c_qn, b_qd, A_qd, n_qd, c_qd, rfl, z_qn, z_qd, hb4⟩
  have R4 := ((((R3.below hb4).add z_qn).add z_qd).alloc 26 #[.bool b_qn, .slice A_qn n_qn c_qn, .bool b_qd, .slice A_qd n_qd c_qd] (g := w4.heap.size) rfl rfl)
  have Yb4 := ((Yb3.below hb4).alloc (.cells #[.bool b_qn, .slice A_qn n_qn c_qn, .bool b_qd, .slice A_qd n_qd c_qd] 26))
  go_wp2_with fail
  refine (hrd _ Yb4).mono ?_; rintro e w5 ⟨b_nn, A_nn, n_nn, b_nd, A_nd, n_nd, A_rest, m_rest, c_rest, rfl, hm_rest, z_nn, z_nd, y_rest, hb5⟩
  have R5 := ((((R4.below hb5).add z_nn).add z_nd).alloc 26 #[.bool b_nn, .slice A_nn n_nn n_nn, .bool b_nd, .slice A_nd n_nd n_nd] (g := w5.heap.size) rfl rfl)
  have Yb5 := ((Yb4.below hb5).alloc (.cells #[.bool b_nn, .slice A_nn n_nn n_nn, .bool b_nd, .slice A_nd n_nd n_nd] 26))
  have Yrest5 := (y_rest.alloc (.cells #[.bool b_nn, .slice A_nn n_nn n_nn, .bool b_nd, .slice A_nd n_nd n_nd] 26))
  go_wp2_with fail
  refine (hrrd _ Yb5).mono ?_; rintro e w6 ⟨b_mn, A_mn, n_mn, c_mn, b_md, A_md, n_md, c_md, A_left, m_left, c_left, rfl, hm_left, z_mn, z_md, y_left, hb6⟩
  have R6 := ((((R5.below hb6).add z_mn).add z_md).alloc 26 #[.bool b_mn, .slice A_mn n_mn c_mn, .bool b_md, .slice A_md n_md c_md] (g := w6.heap.size) rfl rfl)
  have Yb6 := ((Yb5.below hb6).alloc (.cells #[.bool b_mn, .slice A_mn n_mn c_mn, .bool b_md, .slice A_md n_md c_md] 26))
  have Yrest6 := ((Yrest5.below hb6).alloc (.cells #[.bool b_mn, .slice A_mn n_mn c_mn, .bool b_md, .slice A_md n_md c_md] 26))
  have Yleft6 := (y_left.alloc (.cells #[.bool b_mn, .slice A_mn n_mn c_mn, .bool b_md, .slice A_md n_md c_md] 26))
  have k7a0 := R6.cell 4 0 rfl rfl
  have k7a1 := R6.cell 4 1 rfl rfl
  have k7a2 := R6.cell 4 2 rfl rfl
  have k7a3 := R6.cell 4 3 rfl rfl
  go_wp2_with fail
  clear k7a0 k7a1 k7a2 k7a3
  refine (qbytes (k := 4) (R6.z 9 rfl) (R6.z 8 rfl) (by decide) (by decide) (by decide) (by decide) Ha.out (by decide)).mono ?_; rintro e w7 ⟨A_x, m_x, c_x, rfl, hm_x, y_x, hb7⟩
  have R7 := (R6.below hb7)
  have Yb7 := (Yb6.below hb7)
  have Yrest7 := (Yrest6.below hb7)
  have Yleft7 := (Yleft6.below hb7)
  have Yx7 := y_x.ints
  go_wp2_with fail
  have D8 := R7.drew
  have Yb8 := Yb7.drew
  have Yrest8 := Yrest7.drew
  have Yleft8 := Yleft7.drew
  have Yx8 := Yx7.drew
  have s8 := And.intro (D8.cell 4 0 rfl rfl) (And.intro (D8.cell 4 1 rfl rfl) (And.intro (D8.cell 4 2 rfl rfl) (And.intro (D8.cell 4 3 rfl rfl) (And.intro (D8.cell 3 0 rfl rfl) (And.intro (D8.cell 3 1 rfl rfl) (And.intro (D8.cell 3 2 rfl rfl) (And.intro (D8.cell 3 3 rfl rfl) (And.intro (D8.cell 2 0 rfl rfl) (And.intro (D8.cell 2 1 rfl rfl) (And.intro (D8.cell 2 2 rfl rfl) (And.intro (D8.cell 2 3 rfl rfl) (And.intro (D8.cell 1 0 rfl rfl) (And.intro (D8.cell 1 1 rfl rfl) (And.intro (D8.cell 1 2 rfl rfl) (And.intro (D8.cell 1 3 rfl rfl) (And.intro (D8.cell 0 0 rfl rfl) (And.intro (D8.cell 0 1 rfl rfl) (And.intro (D8.cell 0 2 rfl rfl) (D8.cell 0 3 rfl rfl)))))))))))))))))))
  refine wp_region_late [] (fun w' => w'.cell? ⟨w.heap.size, 0, none⟩ = some (.bool ba) ∧ w'.cell? ⟨w.heap.size, 1, none⟩ = some (.slice Aa na ca) ∧ w'.cell? ⟨w.heap.size, 2, none⟩ = some (.bool ba') ∧ w'.cell? ⟨w.heap.size, 3, none⟩ = some (.slice Aa' na' ca') ∧ w'.cell? ⟨w3.heap.size, 0, none⟩ = some (.bool b_pn) ∧ w'.cell? ⟨w3.heap.size, 1, none⟩ = some (.slice A_pn n_pn n_pn) ∧ w'.cell? ⟨w3.heap.size, 2, none⟩ = some (.bool b_pd) ∧ w'.cell? ⟨w3.heap.size, 3, none⟩ = some (.slice A_pd n_pd n_pd) ∧ w'.cell? ⟨w4.heap.size, 0, none⟩ = some (.bool b_qn) ∧ w'.cell? ⟨w4.heap.size, 1, none⟩ = some (.slice A_qn n_qn c_qn) ∧ w'.cell? ⟨w4.heap.size, 2, none⟩ = some (.bool b_qd) ∧ w'.cell? ⟨w4.heap.size, 3, none⟩ = some (.slice A_qd n_qd c_qd) ∧ w'.cell? ⟨w5.heap.size, 0, none⟩ = some (.bool b_nn) ∧ w'.cell? ⟨w5.heap.size, 1, none⟩ = some (.slice A_nn n_nn n_nn) ∧ w'.cell? ⟨w5.heap.size, 2, none⟩ = some (.bool b_nd) ∧ w'.cell? ⟨w5.heap.size, 3, none⟩ = some (.slice A_nd n_nd n_nd) ∧ w'.cell? ⟨w6.heap.size, 0, none⟩ = some (.bool b_mn) ∧ w'.cell? ⟨w6.heap.size, 1, none⟩ = some (.slice A_mn n_mn c_mn) ∧ w'.cell? ⟨w6.heap.size, 2, none⟩ = some (.bool b_md) ∧ w'.cell? ⟨w6.heap.size, 3, none⟩ = some (.slice A_md n_md c_md)) (by kernel_rfl) ?_
  refine wpAnyL_take (i := 0) (v := ?_) rfl (by kernel_rfl) (by kernel_rfl) (by kernel_rfl) (by kernel_rfl) (by kernel_rfl) (fun _ _ _ h => h) (Or.inl ⟨by kernel_rfl, ?_⟩) s8 ?_
  rotate_left
  · rintro w' ⟨h1, h2, h3, h4, h5, h6, h7, h8, h9, h10, h11, h12, h13, h14, h15, h16, h17, h18, h19, h20⟩; go_simp; (try with_reducible rfl)
  try simp only [Act.put, List.getElem_toArray, List.getElem_cons_succ, List.getElem_cons_zero, List.setIfInBounds_toArray, List.set_cons_zero, List.set_cons_succ]
  refine wpAnyL_take (i := 2) (v := ?_) rfl (by kernel_rfl) (by kernel_rfl) (by kernel_rfl) (by kernel_rfl) (by kernel_rfl) (fun _ _ _ h => h) (Or.inl ⟨by kernel_rfl, ?_⟩) s8 ?_
  rotate_left
  · rintro w' ⟨h1, h2, h3, h4, h5, h6, h7, h8, h9, h10, h11, h12, h13, h14, h15, h16, h17, h18, h19, h20⟩; go_simp; (try with_reducible rfl)
  try simp only [Act.put, List.getElem_toArray, List.getElem_cons_succ, List.getElem_cons_zero, List.setIfInBounds_toArray, List.set_cons_zero, List.set_cons_succ]
  refine wpAnyL_one (i := 1) (by kernel_rfl) rfl (fun K hK => ?_)
  go_simp
  refine (qtext (k := 4) (D8.z 9 rfl) (D8.z 8 rfl) (by decide) (by decide) (by decide) (by decide) Ha.out).mono ?_; rintro e w9 ⟨rfl, hb9⟩
  have R9 := (D8.below hb9)
  have Yb9 := Yb8.below hb9
  have Yrest9 := Yrest8.below hb9
  have Yleft9 := Yleft8.below hb9
  have Yx9 := Yx8.below hb9
  rw [HT.out]
  have s9 := And.intro (R9.cell 4 0 rfl rfl) (And.intro (R9.cell 4 1 rfl rfl) (And.intro (R9.cell 4 2 rfl rfl) (And.intro (R9.cell 4 3 rfl rfl) (And.intro (R9.cell 3 0 rfl rfl) (And.intro (R9.cell 3 1 rfl rfl) (And.intro (R9.cell 3 2 rfl rfl) (And.intro (R9.cell 3 3 rfl rfl) (And.intro (R9.cell 2 0 rfl rfl) (And.intro (R9.cell 2 1 rfl rfl) (And.intro (R9.cell 2 2 rfl rfl) (And.intro (R9.cell 2 3 rfl rfl) (And.intro (R9.cell 1 0 rfl rfl) (And.intro (R9.cell 1 1 rfl rfl) (And.intro (R9.cell 1 2 rfl rfl) (And.intro (R9.cell 1 3 rfl rfl) (And.intro (R9.cell 0 0 rfl rfl) (And.intro (R9.cell 0 1 rfl rfl) (And.intro (R9.cell 0 2 rfl rfl) (R9.cell 0 3 rfl rfl)))))))))))))))))))
  go_wp2_with fail
  refine hK.out _ _ (fun _ => s9) ?_
  clear hK K
  try simp only [Act.put, List.getElem_toArray, List.getElem_cons_succ, List.getElem_cons_zero, List.setIfInBounds_toArray, List.set_cons_zero, List.set_cons_succ]
  refine wpAnyL_one (i := 3) (by kernel_rfl) rfl (fun K hK => ?_)
  go_simp
  refine (rqtext (k := 4) (R9.z 9 rfl) (R9.z 8 rfl) (by decide) (by decide) (by decide) (by decide) Ha.out).mono ?_; rintro e w10 ⟨rfl, hb10⟩
  have R10 := (R9.below hb10)
  have Yb10 := Yb9.below hb10
  have Yrest10 := Yrest9.below hb10
  have Yleft10 := Yleft9.below hb10
  have Yx10 := Yx9.below hb10
  rw [HT.out]
  have s10 := And.intro (R10.cell 4 0 rfl rfl) (And.intro (R10.cell 4 1 rfl rfl) (And.intro (R10.cell 4 2 rfl rfl) (And.intro (R10.cell 4 3 rfl rfl) (And.intro (R10.cell 3 0 rfl rfl) (And.intro (R10.cell 3 1 rfl rfl) (And.intro (R10.cell 3 2 rfl rfl) (And.intro (R10.cell 3 3 rfl rfl) (And.intro (R10.cell 2 0 rfl rfl) (And.intro (R10.cell 2 1 rfl rfl) (And.intro (R10.cell 2 2 rfl rfl) (And.intro (R10.cell 2 3 rfl rfl) (And.intro (R10.cell 1 0 rfl rfl) (And.intro (R10.cell 1 1 rfl rfl) (And.intro (R10.cell 1 2 rfl rfl) (And.intro (R10.cell 1 3 rfl rfl) (And.intro (R10.cell 0 0 rfl rfl) (And.intro (R10.cell 0 1 rfl rfl) (And.intro (R10.cell 0 2 rfl rfl) (R10.cell 0 3 rfl rfl)))))))))))))))))))
  go_wp2_with fail
  refine hK.out _ _ (fun _ => s10) ?_
  clear hK K
  try simp only [Act.put, List.getElem_toArray, List.getElem_cons_succ, List.getElem_cons_zero, List.setIfInBounds_toArray, List.set_cons_zero, List.set_cons_succ]
  refine wpAnyL_take (i := 4) (v := ?_) rfl (by kernel_rfl) (by kernel_rfl) (by kernel_rfl) (by kernel_rfl) (by kernel_rfl) (fun _ _ _ h => h) (Or.inl ⟨by kernel_rfl, ?_⟩) s10 ?_
  rotate_left
  · rintro w' ⟨h1, h2, h3, h4, h5, h6, h7, h8, h9, h10, h11, h12, h13, h14, h15, h16, h17, h18, h19, h20⟩; go_simp; (try with_reducible rfl)
  try simp only [Act.put, List.getElem_toArray, List.getElem_cons_succ, List.getElem_cons_zero, List.setIfInBounds_toArray, List.set_cons_zero, List.set_cons_succ]
  refine wpAnyL_take (i := 5) (v := ?_) rfl (by kernel_rfl) (by kernel_rfl) (by kernel_rfl) (by kernel_rfl) (by kernel_rfl) (fun _ _ _ h => h) (Or.inl ⟨by kernel_rfl, ?_⟩) s10 ?_
  rotate_left
  · rintro w' ⟨h1, h2, h3, h4, h5, h6, h7, h8, h9, h10, h11, h12, h13, h14, h15, h16, h17, h18, h19, h20⟩; go_simp; (try with_reducible rfl)
  try simp only [Act.put, List.getElem_toArray, List.getElem_cons_succ, List.getElem_cons_zero, List.setIfInBounds_toArray, List.set_cons_zero, List.set_cons_succ]
  refine wpAnyL_take (i := 6) (v := ?_) rfl (by kernel_rfl) (by kernel_rfl) (by kernel_rfl) (by kernel_rfl) (by kernel_rfl) (fun _ _ _ h => h) (Or.inl ⟨by kernel_rfl, ?_⟩) s10 ?_
  rotate_left
  · rintro w' ⟨h1, h2, h3, h4, h5, h6, h7, h8, h9, h10, h11, h12, h13, h14, h15, h16, h17, h18, h19, h20⟩; go_simp; (try with_reducible rfl)
  try simp only [Act.put, List.getElem_toArray, List.getElem_cons_succ, List.getElem_cons_zero, List.setIfInBounds_toArray, List.set_cons_zero, List.set_cons_succ]
  refine wpAnyL_take (i := 7) (v := ?_) rfl (by kernel_rfl) (by kernel_rfl) (by kernel_rfl) (by kernel_rfl) (by kernel_rfl) (fun _ _ _ h => h) (Or.inl ⟨by kernel_rfl, ?_⟩) s10 ?_
  rotate_left
  · rintro w' ⟨h1, h2, h3, h4, h5, h6, h7, h8, h9, h10, h11, h12, h13, h14, h15, h16, h17, h18, h19, h20⟩; go_simp; (try with_reducible rfl)
  try simp only [Act.put, List.getElem_toArray, List.getElem_cons_succ, List.getElem_cons_zero, List.setIfInBounds_toArray, List.set_cons_zero, List.set_cons_succ]
  refine wpAnyL_one (i := 8) (by kernel_rfl) rfl (fun K hK => ?_)
  go_simp
  refine (rqsame (R10.z 7 rfl) (R10.z 6 rfl) (R10.z 5 rfl) (R10.z 4 rfl) (by decide) (by decide) (by decide) (by decide) (qsame_eq rfl)).mono ?_; rintro e w11 ⟨rfl, hb11⟩
  have R11 := (R10.below hb11)
  have Yb11 := Yb10.below hb11
  have Yrest11 := Yrest10.below hb11
  have Yleft11 := Yleft10.below hb11
  have Yx11 := Yx10.below hb11
  have s11 := And.intro (R11.cell 4 0 rfl rfl) (And.intro (R11.cell 4 1 rfl rfl) (And.intro (R11.cell 4 2 rfl rfl) (And.intro (R11.cell 4 3 rfl rfl) (And.intro (R11.cell 3 0 rfl rfl) (And.intro (R11.cell 3 1 rfl rfl) (And.intro (R11.cell 3 2 rfl rfl) (And.intro (R11.cell 3 3 rfl rfl) (And.intro (R11.cell 2 0 rfl rfl) (And.intro (R11.cell 2 1 rfl rfl) (And.intro (R11.cell 2 2 rfl rfl) (And.intro (R11.cell 2 3 rfl rfl) (And.intro (R11.cell 1 0 rfl rfl) (And.intro (R11.cell 1 1 rfl rfl) (And.intro (R11.cell 1 2 rfl rfl) (And.intro (R11.cell 1 3 rfl rfl) (And.intro (R11.cell 0 0 rfl rfl) (And.intro (R11.cell 0 1 rfl rfl) (And.intro (R11.cell 0 2 rfl rfl) (R11.cell 0 3 rfl rfl)))))))))))))))))))
  go_wp2_with fail
  refine hK.out _ _ (fun _ => s11) ?_
  clear hK K
  try simp only [Act.put, List.getElem_toArray, List.getElem_cons_succ, List.getElem_cons_zero, List.setIfInBounds_toArray, List.set_cons_zero, List.set_cons_succ]
  refine wpAnyL_take (i := 9) (v := ?_) rfl (by kernel_rfl) (by kernel_rfl) (by kernel_rfl) (by kernel_rfl) (by kernel_rfl) (fun _ _ _ h => h) (Or.inl ⟨by kernel_rfl, ?_⟩) s11 ?_
  rotate_left
  · rintro w' ⟨h1, h2, h3, h4, h5, h6, h7, h8, h9, h10, h11, h12, h13, h14, h15, h16, h17, h18, h19, h20⟩; go_simp; (try with_reducible rfl)
  try simp only [Act.put, List.getElem_toArray, List.getElem_cons_succ, List.getElem_cons_zero, List.setIfInBounds_toArray, List.set_cons_zero, List.set_cons_succ]
  refine wpAnyL_take (i := 10) (v := ?_) rfl (by kernel_rfl) (by kernel_rfl) (by kernel_rfl) (by kernel_rfl) (by kernel_rfl) (fun _ _ _ h => h) (Or.inl ⟨by kernel_rfl, ?_⟩) s11 ?_
  rotate_left
  · rintro w' ⟨h1, h2, h3, h4, h5, h6, h7, h8, h9, h10, h11, h12, h13, h14, h15, h16, h17, h18, h19, h20⟩; go_simp; (try with_reducible rfl)
  try simp only [Act.put, List.getElem_toArray, List.getElem_cons_succ, List.getElem_cons_zero, List.setIfInBounds_toArray, List.set_cons_zero, List.set_cons_succ]
  refine wpAnyL_take (i := 11) (v := ?_) rfl (by kernel_rfl) (by kernel_rfl) (by kernel_rfl) (by kernel_rfl) (by kernel_rfl) (fun _ _ _ h => h) (Or.inl ⟨by kernel_rfl, ?_⟩) s11 ?_
  rotate_left
  · rintro w' ⟨h1, h2, h3, h4, h5, h6, h7, h8, h9, h10, h11, h12, h13, h14, h15, h16, h17, h18, h19, h20⟩; go_simp; (try with_reducible rfl)
  try simp only [Act.put, List.getElem_toArray, List.getElem_cons_succ, List.getElem_cons_zero, List.setIfInBounds_toArray, List.set_cons_zero, List.set_cons_succ]
  refine wpAnyL_take (i := 12) (v := ?_) rfl (by kernel_rfl) (by kernel_rfl) (by kernel_rfl) (by kernel_rfl) (by kernel_rfl) (fun _ _ _ h => h) (Or.inl ⟨by kernel_rfl, ?_⟩) s11 ?_
  rotate_left
  · rintro w' ⟨h1, h2, h3, h4, h5, h6, h7, h8, h9, h10, h11, h12, h13, h14, h15, h16, h17, h18, h19, h20⟩; go_simp; (try with_reducible rfl)
  try simp only [Act.put, List.getElem_toArray, List.getElem_cons_succ, List.getElem_cons_zero, List.setIfInBounds_toArray, List.set_cons_zero, List.set_cons_succ]
  refine wpAnyL_take (i := 13) (v := ?_) rfl (by kernel_rfl) (by kernel_rfl) (by kernel_rfl) (by kernel_rfl) (by kernel_rfl) (fun _ _ _ h => h) (Or.inl ⟨by kernel_rfl, ?_⟩) s11 ?_
  rotate_left
  · rintro w' ⟨h1, h2, h3, h4, h5, h6, h7, h8, h9, h10, h11, h12, h13, h14, h15, h16, h17, h18, h19, h20⟩; go_simp; (try with_reducible rfl)
  try simp only [Act.put, List.getElem_toArray, List.getElem_cons_succ, List.getElem_cons_zero, List.setIfInBounds_toArray, List.set_cons_zero, List.set_cons_succ]
  refine wpAnyL_take (i := 14) (v := ?_) rfl (by kernel_rfl) (by kernel_rfl) (by kernel_rfl) (by kernel_rfl) (by kernel_rfl) (fun _ _ _ h => h) (Or.inl ⟨by kernel_rfl, ?_⟩) s11 ?_
  rotate_left
  · rintro w' ⟨h1, h2, h3, h4, h5, h6, h7, h8, h9, h10, h11, h12, h13, h14, h15, h16, h17, h18, h19, h20⟩; go_simp; (try with_reducible rfl)
  try simp only [Act.put, List.getElem_toArray, List.getElem_cons_succ, List.getElem_cons_zero, List.setIfInBounds_toArray, List.set_cons_zero, List.set_cons_succ]
  refine wpAnyL_take (i := 15) (v := ?_) rfl (by kernel_rfl) (by kernel_rfl) (by kernel_rfl) (by kernel_rfl) (by kernel_rfl) (fun _ _ _ h => h) (Or.inl ⟨by kernel_rfl, ?_⟩) s11 ?_
  rotate_left
  · rintro w' ⟨h1, h2, h3, h4, h5, h6, h7, h8, h9, h10, h11, h12, h13, h14, h15, h16, h17, h18, h19, h20⟩; go_simp; (try with_reducible rfl)
  try simp only [Act.put, List.getElem_toArray, List.getElem_cons_succ, List.getElem_cons_zero, List.setIfInBounds_toArray, List.set_cons_zero, List.set_cons_succ]
  refine wpAnyL_take (i := 16) (v := ?_) rfl (by kernel_rfl) (by kernel_rfl) (by kernel_rfl) (by kernel_rfl) (by kernel_rfl) (fun _ _ _ h => h) (Or.inl ⟨by kernel_rfl, ?_⟩) s11 ?_
  rotate_left
  · rintro w' ⟨h1, h2, h3, h4, h5, h6, h7, h8, h9, h10, h11, h12, h13, h14, h15, h16, h17, h18, h19, h20⟩; go_simp; (try with_reducible rfl)
  try simp only [Act.put, List.getElem_toArray, List.getElem_cons_succ, List.getElem_cons_zero, List.setIfInBounds_toArray, List.set_cons_zero, List.set_cons_succ]
  refine wpAnyL_take (i := 17) (v := ?_) rfl (by kernel_rfl) (by kernel_rfl) (by kernel_rfl) (by kernel_rfl) (by kernel_rfl) (fun _ _ _ h => h) (Or.inl ⟨by kernel_rfl, ?_⟩) s11 ?_
  rotate_left
  · rintro w' ⟨h1, h2, h3, h4, h5, h6, h7, h8, h9, h10, h11, h12, h13, h14, h15, h16, h17, h18, h19, h20⟩; go_simp; (try with_reducible rfl)
  try simp only [Act.put, List.getElem_toArray, List.getElem_cons_succ, List.getElem_cons_zero, List.setIfInBounds_toArray, List.set_cons_zero, List.set_cons_succ]
  refine wpAnyL_take (i := 18) (v := ?_) rfl (by kernel_rfl) (by kernel_rfl) (by kernel_rfl) (by kernel_rfl) (by kernel_rfl) (fun _ _ _ h => h) (Or.inl ⟨by kernel_rfl, ?_⟩) s11 ?_
  rotate_left
  · rintro w' ⟨h1, h2, h3, h4, h5, h6, h7, h8, h9, h10, h11, h12, h13, h14, h15, h16, h17, h18, h19, h20⟩; go_simp; (try with_reducible rfl)
  try simp only [Act.put, List.getElem_toArray, List.getElem_cons_succ, List.getElem_cons_zero, List.setIfInBounds_toArray, List.set_cons_zero, List.set_cons_succ]
  refine wpAnyL_one (i := 19) (by kernel_rfl) rfl (fun K hK => ?_)
  go_simp
  refine (rqbytes (k := 4) (R11.z 9 rfl) (R11.z 8 rfl) (by decide) (by decide) (by decide) (by decide) Ha.out).mono ?_; rintro e w12 ⟨A_xr, m_xr, c_xr, rfl, y_xr, hb12⟩
  have R12 := (R11.below hb12)
  have Yb12 := Yb11.below hb12
  have Yrest12 := Yrest11.below hb12
  have Yleft12 := Yleft11.below hb12
  have Yx12 := Yx11.below hb12
  have Yxr12 := y_xr.ints
  have s12 := And.intro (R12.cell 4 0 rfl rfl) (And.intro (R12.cell 4 1 rfl rfl) (And.intro (R12.cell 4 2 rfl rfl) (And.intro (R12.cell 4 3 rfl rfl) (And.intro (R12.cell 3 0 rfl rfl) (And.intro (R12.cell 3 1 rfl rfl) (And.intro (R12.cell 3 2 rfl rfl) (And.intro (R12.cell 3 3 rfl rfl) (And.intro (R12.cell 2 0 rfl rfl) (And.intro (R12.cell 2 1 rfl rfl) (And.intro (R12.cell 2 2 rfl rfl) (And.intro (R12.cell 2 3 rfl rfl) (And.intro (R12.cell 1 0 rfl rfl) (And.intro (R12.cell 1 1 rfl rfl) (And.intro (R12.cell 1 2 rfl rfl) (And.intro (R12.cell 1 3 rfl rfl) (And.intro (R12.cell 0 0 rfl rfl) (And.intro (R12.cell 0 1 rfl rfl) (And.intro (R12.cell 0 2 rfl rfl) (R12.cell 0 3 rfl rfl)))))))))))))))))))
  go_wp2_with fail
  refine hK.out _ _ (fun _ => s12) ?_
  clear hK K
  try simp only [Act.put, List.getElem_toArray, List.getElem_cons_succ, List.getElem_cons_zero, List.setIfInBounds_toArray, List.set_cons_zero, List.set_cons_succ]
  refine wpAnyL_one (i := 20) (by kernel_rfl) rfl (fun K hK => ?_)
  go_simp
  refine (rows_true _ _ _ _ _ _ _ _ _ Yx12 Yxr12 (by omega) (by have := y_xr.len; have := y_x.len; omega) rfl).mono ?_; rintro e w13 ⟨rfl, hb13⟩
  have R13 := (R12.below hb13)
  have Yb13 := Yb12.below hb13
  have Yrest13 := Yrest12.below hb13
  have Yleft13 := Yleft12.below hb13
  have Yx13 := Yx12.below hb13
  have Yxr13 := Yxr12.below hb13
  have s13 := And.intro (R13.cell 4 0 rfl rfl) (And.intro (R13.cell 4 1 rfl rfl) (And.intro (R13.cell 4 2 rfl rfl) (And.intro (R13.cell 4 3 rfl rfl) (And.intro (R13.cell 3 0 rfl rfl) (And.intro (R13.cell 3 1 rfl rfl) (And.intro (R13.cell 3 2 rfl rfl) (And.intro (R13.cell 3 3 rfl rfl) (And.intro (R13.cell 2 0 rfl rfl) (And.intro (R13.cell 2 1 rfl rfl) (And.intro (R13.cell 2 2 rfl rfl) (And.intro (R13.cell 2 3 rfl rfl) (And.intro (R13.cell 1 0 rfl rfl) (And.intro (R13.cell 1 1 rfl rfl) (And.intro (R13.cell 1 2 rfl rfl) (And.intro (R13.cell 1 3 rfl rfl) (And.intro (R13.cell 0 0 rfl rfl) (And.intro (R13.cell 0 1 rfl rfl) (And.intro (R13.cell 0 2 rfl rfl) (R13.cell 0 3 rfl rfl)))))))))))))))))))
  go_wp2_with fail
  refine hK.out _ _ (fun _ => s13) ?_
  clear hK K
  try simp only [Act.put, List.getElem_toArray, List.getElem_cons_succ, List.getElem_cons_zero, List.setIfInBounds_toArray, List.set_cons_zero, List.set_cons_succ]
  refine wpAnyL_take (i := 21) (v := ?_) rfl (by kernel_rfl) (by kernel_rfl) (by kernel_rfl) (by kernel_rfl) (by kernel_rfl) (fun _ _ _ h => h) (Or.inl ⟨by kernel_rfl, ?_⟩) s13 ?_
  rotate_left
  · rintro w' ⟨h1, h2, h3, h4, h5, h6, h7, h8, h9, h10, h11, h12, h13, h14, h15, h16, h17, h18, h19, h20⟩; go_simp; (try with_reducible rfl)
  try simp only [Act.put, List.getElem_toArray, List.getElem_cons_succ, List.getElem_cons_zero, List.setIfInBounds_toArray, List.set_cons_zero, List.set_cons_succ]
  refine wpAnyL_take (i := 22) (v := ?_) rfl (by kernel_rfl) (by kernel_rfl) (by kernel_rfl) (by kernel_rfl) (by kernel_rfl) (fun _ _ _ h => h) (Or.inl ⟨by kernel_rfl, ?_⟩) s13 ?_
  rotate_left
  · rintro w' ⟨h1, h2, h3, h4, h5, h6, h7, h8, h9, h10, h11, h12, h13, h14, h15, h16, h17, h18, h19, h20⟩; go_simp; (try with_reducible rfl)
  try simp only [Act.put, List.getElem_toArray, List.getElem_cons_succ, List.getElem_cons_zero, List.setIfInBounds_toArray, List.set_cons_zero, List.set_cons_succ]
  refine wpAnyL_take (i := 23) (v := ?_) rfl (by kernel_rfl) (by kernel_rfl) (by kernel_rfl) (by kernel_rfl) (by kernel_rfl) (fun _ _ _ h => h) (Or.inl ⟨by kernel_rfl, ?_⟩) s13 ?_
  rotate_left
  · rintro w' ⟨h1, h2, h3, h4, h5, h6, h7, h8, h9, h10, h11, h12, h13, h14, h15, h16, h17, h18, h19, h20⟩; go_simp; (try with_reducible rfl)
  try simp only [Act.put, List.getElem_toArray, List.getElem_cons_succ, List.getElem_cons_zero, List.setIfInBounds_toArray, List.set_cons_zero, List.set_cons_succ]
  refine wpAnyL_take (i := 24) (v := ?_) rfl (by kernel_rfl) (by kernel_rfl) (by kernel_rfl) (by kernel_rfl) (by kernel_rfl) (fun _ _ _ h => h) (Or.inl ⟨by kernel_rfl, ?_⟩) s13 ?_
  rotate_left
  · rintro w' ⟨h1, h2, h3, h4, h5, h6, h7, h8, h9, h10, h11, h12, h13, h14, h15, h16, h17, h18, h19, h20⟩; go_simp; (try with_reducible rfl)
  try simp only [Act.put, List.getElem_toArray, List.getElem_cons_succ, List.getElem_cons_zero, List.setIfInBounds_toArray, List.set_cons_zero, List.set_cons_succ]
  refine wpAnyL_take (i := 25) (v := ?_) rfl (by kernel_rfl) (by kernel_rfl) (by kernel_rfl) (by kernel_rfl) (by kernel_rfl) (fun _ _ _ h => h) (Or.inl ⟨by kernel_rfl, ?_⟩) s13 ?_
  rotate_left
  · rintro w' ⟨h1, h2, h3, h4, h5, h6, h7, h8, h9, h10, h11, h12, h13, h14, h15, h16, h17, h18, h19, h20⟩; go_simp; (try with_reducible rfl)
  try simp only [Act.put, List.getElem_toArray, List.getElem_cons_succ, List.getElem_cons_zero, List.setIfInBounds_toArray, List.set_cons_zero, List.set_cons_succ]
  refine wpAnyL_one (i := 26) (by kernel_rfl) rfl (fun K hK => ?_)
  go_simp
  refine (rqsame (R13.z 3 rfl) (R13.z 2 rfl) (R13.z 1 rfl) (R13.z 0 rfl) (by decide) (by decide) (by decide) (by decide) (qsame_eq rfl)).mono ?_; rintro e w14 ⟨rfl, hb14⟩
  have R14 := (R13.below hb14)
  have Yb14 := Yb13.below hb14
  have Yrest14 := Yrest13.below hb14
  have Yleft14 := Yleft13.below hb14
  have Yx14 := Yx13.below hb14
  have Yxr14 := Yxr13.below hb14
  have s14 := And.intro (R14.cell 4 0 rfl rfl) (And.intro (R14.cell 4 1 rfl rfl) (And.intro (R14.cell 4 2 rfl rfl) (And.intro (R14.cell 4 3 rfl rfl) (And.intro (R14.cell 3 0 rfl rfl) (And.intro (R14.cell 3 1 rfl rfl) (And.intro (R14.cell 3 2 rfl rfl) (And.intro (R14.cell 3 3 rfl rfl) (And.intro (R14.cell 2 0 rfl rfl) (And.intro (R14.cell 2 1 rfl rfl) (And.intro (R14.cell 2 2 rfl rfl) (And.intro (R14.cell 2 3 rfl rfl) (And.intro (R14.cell 1 0 rfl rfl) (And.intro (R14.cell 1 1 rfl rfl) (And.intro (R14.cell 1 2 rfl rfl) (And.intro (R14.cell 1 3 rfl rfl) (And.intro (R14.cell 0 0 rfl rfl) (And.intro (R14.cell 0 1 rfl rfl) (And.intro (R14.cell 0 2 rfl rfl) (R14.cell 0 3 rfl rfl)))))))))))))))))))
  go_wp2_with fail
  refine hK.out _ _ (fun _ => s14) ?_
  clear hK K
  try simp only [Act.put, List.getElem_toArray, List.getElem_cons_succ, List.getElem_cons_zero, List.setIfInBounds_toArray, List.set_cons_zero, List.set_cons_succ]
  refine wpAnyL_take (i := 27) (v := ?_) rfl (by kernel_rfl) (by kernel_rfl) (by kernel_rfl) (by kernel_rfl) (by kernel_rfl) (fun _ _ _ h => h) (Or.inl ⟨by kernel_rfl, ?_⟩) s14 ?_
  rotate_left
  · rintro w' ⟨h1, h2, h3, h4, h5, h6, h7, h8, h9, h10, h11, h12, h13, h14, h15, h16, h17, h18, h19, h20⟩; go_simp; (try with_reducible rfl)
  try simp only [Act.put, List.getElem_toArray, List.getElem_cons_succ, List.getElem_cons_zero, List.setIfInBounds_toArray, List.set_cons_zero, List.set_cons_succ]
  refine wpAnyL_take (i := 28) (v := ?_) rfl (by kernel_rfl) (by kernel_rfl) (by kernel_rfl) (by kernel_rfl) (by kernel_rfl) (fun _ _ _ h => h) (Or.inl ⟨by kernel_rfl, ?_⟩) s14 ?_
  rotate_left
  · rintro w' ⟨h1, h2, h3, h4, h5, h6, h7, h8, h9, h10, h11, h12, h13, h14, h15, h16, h17, h18, h19, h20⟩; go_simp; (try with_reducible rfl)
  try simp only [Act.put, List.getElem_toArray, List.getElem_cons_succ, List.getElem_cons_zero, List.setIfInBounds_toArray, List.set_cons_zero, List.set_cons_succ]
  refine wpAnyL_take (i := 29) (v := ?_) rfl (by kernel_rfl) (by kernel_rfl) (by kernel_rfl) (by kernel_rfl) (by kernel_rfl) (fun _ _ _ h => h) (Or.inl ⟨by kernel_rfl, ?_⟩) s14 ?_
  rotate_left
  · rintro w' ⟨h1, h2, h3, h4, h5, h6, h7, h8, h9, h10, h11, h12, h13, h14, h15, h16, h17, h18, h19, h20⟩; go_simp; (try with_reducible rfl)
  try simp only [Act.put, List.getElem_toArray, List.getElem_cons_succ, List.getElem_cons_zero, List.setIfInBounds_toArray, List.set_cons_zero, List.set_cons_succ]
  refine wpAnyL_take (i := 30) (v := ?_) rfl (by kernel_rfl) (by kernel_rfl) (by kernel_rfl) (by kernel_rfl) (by kernel_rfl) (fun _ _ _ h => h) (Or.inl ⟨by kernel_rfl, ?_⟩) s14 ?_
  rotate_left
  · rintro w' ⟨h1, h2, h3, h4, h5, h6, h7, h8, h9, h10, h11, h12, h13, h14, h15, h16, h17, h18, h19, h20⟩; go_simp; (try with_reducible rfl)
  try simp only [Act.put, List.getElem_toArray, List.getElem_cons_succ, List.getElem_cons_zero, List.setIfInBounds_toArray, List.set_cons_zero, List.set_cons_succ]
  refine wpAnyL_take (i := 31) (v := ?_) rfl (by kernel_rfl) (by kernel_rfl) (by kernel_rfl) (by kernel_rfl) (by kernel_rfl) (fun _ _ _ h => h) (Or.inl ⟨by kernel_rfl, ?_⟩) s14 ?_
  rotate_left
  · rintro w' ⟨h1, h2, h3, h4, h5, h6, h7, h8, h9, h10, h11, h12, h13, h14, h15, h16, h17, h18, h19, h20⟩; go_simp; (try with_reducible rfl)
  try simp only [Act.put, List.getElem_toArray, List.getElem_cons_succ, List.getElem_cons_zero, List.setIfInBounds_toArray, List.set_cons_zero, List.set_cons_succ]
  refine wpAnyL_one (i := 32) (by kernel_rfl) rfl (fun K hK => ?_)
  go_simp
  refine (rows_true _ _ _ _ _ _ _ _ _ Yrest14 Yleft14 (by omega) (by omega) rfl).mono ?_; rintro e w15 ⟨rfl, hb15⟩
  have R15 := (R14.below hb15)
  have Yb15 := Yb14.below hb15
  have Yrest15 := Yrest14.below hb15
  have Yleft15 := Yleft14.below hb15
  have Yx15 := Yx14.below hb15
  have Yxr15 := Yxr14.below hb15
  have s15 := And.intro (R15.cell 4 0 rfl rfl) (And.intro (R15.cell 4 1 rfl rfl) (And.intro (R15.cell 4 2 rfl rfl) (And.intro (R15.cell 4 3 rfl rfl) (And.intro (R15.cell 3 0 rfl rfl) (And.intro (R15.cell 3 1 rfl rfl) (And.intro (R15.cell 3 2 rfl rfl) (And.intro (R15.cell 3 3 rfl rfl) (And.intro (R15.cell 2 0 rfl rfl) (And.intro (R15.cell 2 1 rfl rfl) (And.intro (R15.cell 2 2 rfl rfl) (And.intro (R15.cell 2 3 rfl rfl) (And.intro (R15.cell 1 0 rfl rfl) (And.intro (R15.cell 1 1 rfl rfl) (And.intro (R15.cell 1 2 rfl rfl) (And.intro (R15.cell 1 3 rfl rfl) (And.intro (R15.cell 0 0 rfl rfl) (And.intro (R15.cell 0 1 rfl rfl) (And.intro (R15.cell 0 2 rfl rfl) (R15.cell 0 3 rfl rfl)))))))))))))))))))
  go_wp2_with fail
  refine hK.out _ _ (fun _ => s15) ?_
  clear hK K
  try simp only [Act.put, List.getElem_toArray, List.getElem_cons_succ, List.getElem_cons_zero, List.setIfInBounds_toArray, List.set_cons_zero, List.set_cons_succ]
  refine wpAnyL_take (i := 33) (v := ?_) rfl (by kernel_rfl) (by kernel_rfl) (by kernel_rfl) (by kernel_rfl) (by kernel_rfl) (fun _ _ _ h => h) (Or.inl ⟨by kernel_rfl, ?_⟩) s15 ?_
  rotate_left
  · rintro w' ⟨h1, h2, h3, h4, h5, h6, h7, h8, h9, h10, h11, h12, h13, h14, h15, h16, h17, h18, h19, h20⟩; go_simp; (try with_reducible rfl)
  try simp only [Act.put, List.getElem_toArray, List.getElem_cons_succ, List.getElem_cons_zero, List.setIfInBounds_toArray, List.set_cons_zero, List.set_cons_succ]
  refine wpAnyL_take (i := 34) (v := ?_) rfl (by kernel_rfl) (by kernel_rfl) (by kernel_rfl) (by kernel_rfl) (by kernel_rfl) (fun _ _ _ h => h) (Or.inl ⟨by kernel_rfl, ?_⟩) s15 ?_
  rotate_left
  · rintro w' ⟨h1, h2, h3, h4, h5, h6, h7, h8, h9, h10, h11, h12, h13, h14, h15, h16, h17, h18, h19, h20⟩; go_simp; (try with_reducible rfl)
  try simp only [Act.put, List.getElem_toArray, List.getElem_cons_succ, List.getElem_cons_zero, List.setIfInBounds_toArray, List.set_cons_zero, List.set_cons_succ]
  refine wpAnyL_take (i := 35) (v := ?_) rfl (by kernel_rfl) (by kernel_rfl) (by kernel_rfl) (by kernel_rfl) (by kernel_rfl) (fun _ _ _ h => h) (Or.inl ⟨by kernel_rfl, ?_⟩) s15 ?_
  rotate_left
  · rintro w' ⟨h1, h2, h3, h4, h5, h6, h7, h8, h9, h10, h11, h12, h13, h14, h15, h16, h17, h18, h19, h20⟩; go_simp; (try with_reducible rfl)
  try simp only [Act.put, List.getElem_toArray, List.getElem_cons_succ, List.getElem_cons_zero, List.setIfInBounds_toArray, List.set_cons_zero, List.set_cons_succ]
  refine wpAnyL_take (i := 36) (v := ?_) rfl (by kernel_rfl) (by kernel_rfl) (by kernel_rfl) (by kernel_rfl) (by kernel_rfl) (fun _ _ _ h => h) (Or.inl ⟨by kernel_rfl, ?_⟩) s15 ?_
  rotate_left
  · rintro w' ⟨h1, h2, h3, h4, h5, h6, h7, h8, h9, h10, h11, h12, h13, h14, h15, h16, h17, h18, h19, h20⟩; go_simp; (try with_reducible rfl)
  try simp only [Act.put, List.getElem_toArray, List.getElem_cons_succ, List.getElem_cons_zero, List.setIfInBounds_toArray, List.set_cons_zero, List.set_cons_succ]
  refine wpAnyL_take (i := 37) (v := ?_) rfl (by kernel_rfl) (by kernel_rfl) (by kernel_rfl) (by kernel_rfl) (by kernel_rfl) (fun _ _ _ h => h) (Or.inl ⟨by kernel_rfl, ?_⟩) s15 ?_
  rotate_left
  · rintro w' ⟨h1, h2, h3, h4, h5, h6, h7, h8, h9, h10, h11, h12, h13, h14, h15, h16, h17, h18, h19, h20⟩; go_simp; (try with_reducible rfl)
  try simp only [Act.put, List.getElem_toArray, List.getElem_cons_succ, List.getElem_cons_zero, List.setIfInBounds_toArray, List.set_cons_zero, List.set_cons_succ]
  refine wpAnyL_take (i := 38) (v := ?_) rfl (by kernel_rfl) (by kernel_rfl) (by kernel_rfl) (by kernel_rfl) (by kernel_rfl) (fun _ _ _ h => h) (Or.inl ⟨by kernel_rfl, ?_⟩) s15 ?_
  rotate_left
  · rintro w' ⟨h1, h2, h3, h4, h5, h6, h7, h8, h9, h10, h11, h12, h13, h14, h15, h16, h17, h18, h19, h20⟩; go_simp; (try with_reducible rfl)
  try simp only [Act.put, List.getElem_toArray, List.getElem_cons_succ, List.getElem_cons_zero, List.setIfInBounds_toArray, List.set_cons_zero, List.set_cons_succ]
  refine wpAnyL_take (i := 39) (v := ?_) rfl (by kernel_rfl) (by kernel_rfl) (by kernel_rfl) (by kernel_rfl) (by kernel_rfl) (fun _ _ _ h => h) (Or.inl ⟨by kernel_rfl, ?_⟩) s15 ?_
  rotate_left
  · rintro w' ⟨h1, h2, h3, h4, h5, h6, h7, h8, h9, h10, h11, h12, h13, h14, h15, h16, h17, h18, h19, h20⟩; go_simp; (try with_reducible rfl)
  try simp only [Act.put, List.getElem_toArray, List.getElem_cons_succ, List.getElem_cons_zero, List.setIfInBounds_toArray, List.set_cons_zero, List.set_cons_succ]
  refine wpAnyL_done (by kernel_rfl) ?_ _
  go_wp2_with fail
  have k16a0 := R15.cell 4 0 rfl rfl
  have k16a1 := R15.cell 4 1 rfl rfl
  have k16a2 := R15.cell 4 2 rfl rfl
  have k16a3 := R15.cell 4 3 rfl rfl
  clear k16a0 k16a1 k16a2 k16a3
  refine (qtext (k := 4) (R15.z 9 rfl) (R15.z 8 rfl) (by decide) (by decide) (by decide) (by decide) Ha.out).mono ?_; rintro e w16 ⟨rfl, hb16⟩
  have R16 := (R15.below hb16)
  have Yb16 := (Yb15.below hb16)
  have Yrest16 := (Yrest15.below hb16)
  have Yleft16 := (Yleft15.below hb16)
  have Yx16 := (Yx15.below hb16)
  have Yxr16 := (Yxr15.below hb16)
  rw [HT.out]
  go_wp2_with fail
  refine (hpt _).mono ?_; rintro e w17 ⟨b_kn, A_kn, n_kn, b_kd, A_kd, n_kd, rfl, z_kn, z_kd, hb17⟩
  have R17 := ((((R16.below hb17).add z_kn).add z_kd).alloc 26 #[.bool b_kn, .slice A_kn n_kn n_kn, .bool b_kd, .slice A_kd n_kd n_kd] (g := w17.heap.size) rfl rfl)
  have Yb17 := ((Yb16.below hb17).alloc (.cells #[.bool b_kn, .slice A_kn n_kn n_kn, .bool b_kd, .slice A_kd n_kd n_kd] 26))
  have Yrest17 := ((Yrest16.below hb17).alloc (.cells #[.bool b_kn, .slice A_kn n_kn n_kn, .bool b_kd, .slice A_kd n_kd n_kd] 26))
  have Yleft17 := ((Yleft16.below hb17).alloc (.cells #[.bool b_kn, .slice A_kn n_kn n_kn, .bool b_kd, .slice A_kd n_kd n_kd] 26))
  have Yx17 := ((Yx16.below hb17).alloc (.cells #[.bool b_kn, .slice A_kn n_kn n_kn, .bool b_kd, .slice A_kd n_kd n_kd] 26))
  have Yxr17 := ((Yxr16.below hb17).alloc (.cells #[.bool b_kn, .slice A_kn n_kn n_kn, .bool b_kd, .slice A_kd n_kd n_kd] 26))
  go_wp2_with fail
  refine (hrx _ _ _ _ Yx17 (by omega)).mono ?_; rintro e w18 ⟨b_rn, A_rn, n_rn, b_rd, A_rd, n_rd, A_none, m_none, c_none, rfl, hm_none, z_rn, z_rd, y_none, hb18⟩
  have R18 := ((((R17.below hb18).add z_rn).add z_rd).alloc 26 #[.bool b_rn, .slice A_rn n_rn n_rn, .bool b_rd, .slice A_rd n_rd n_rd] (g := w18.heap.size) rfl rfl)
  have Yb18 := ((Yb17.below hb18).alloc (.cells #[.bool b_rn, .slice A_rn n_rn n_rn, .bool b_rd, .slice A_rd n_rd n_rd] 26))
  have Yrest18 := ((Yrest17.below hb18).alloc (.cells #[.bool b_rn, .slice A_rn n_rn n_rn, .bool b_rd, .slice A_rd n_rd n_rd] 26))
  have Yleft18 := ((Yleft17.below hb18).alloc (.cells #[.bool b_rn, .slice A_rn n_rn n_rn, .bool b_rd, .slice A_rd n_rd n_rd] 26))
  have Yx18 := ((Yx17.below hb18).alloc (.cells #[.bool b_rn, .slice A_rn n_rn n_rn, .bool b_rd, .slice A_rd n_rd n_rd] 26))
  have Yxr18 := ((Yxr17.below hb18).alloc (.cells #[.bool b_rn, .slice A_rn n_rn n_rn, .bool b_rd, .slice A_rd n_rd n_rd] 26))
  have Ynone18 := (y_none.alloc (.cells #[.bool b_rn, .slice A_rn n_rn n_rn, .bool b_rd, .slice A_rd n_rd n_rd] 26))
  obtain rfl : 0 = m_none := y_none.len
  go_wp2_with fail
  have D19 := R18.drew
  have s19 := And.intro (D19.cell 6 0 rfl rfl) (And.intro (D19.cell 6 1 rfl rfl) (And.intro (D19.cell 6 2 rfl rfl) (And.intro (D19.cell 6 3 rfl rfl) (And.intro (D19.cell 1 0 rfl rfl) (And.intro (D19.cell 1 1 rfl rfl) (And.intro (D19.cell 1 2 rfl rfl) (And.intro (D19.cell 1 3 rfl rfl) (And.intro (D19.cell 0 0 rfl rfl) (And.intro (D19.cell 0 1 rfl rfl) (And.intro (D19.cell 0 2 rfl rfl) (D19.cell 0 3 rfl rfl)))))))))))
  refine wp_region_late [] (fun w' => w'.cell? ⟨w.heap.size, 0, none⟩ = some (.bool ba) ∧ w'.cell? ⟨w.heap.size, 1, none⟩ = some (.slice Aa na ca) ∧ w'.cell? ⟨w.heap.size, 2, none⟩ = some (.bool ba') ∧ w'.cell? ⟨w.heap.size, 3, none⟩ = some (.slice Aa' na' ca') ∧ w'.cell? ⟨w17.heap.size, 0, none⟩ = some (.bool b_kn) ∧ w'.cell? ⟨w17.heap.size, 1, none⟩ = some (.slice A_kn n_kn n_kn) ∧ w'.cell? ⟨w17.heap.size, 2, none⟩ = some (.bool b_kd) ∧ w'.cell? ⟨w17.heap.size, 3, none⟩ = some (.slice A_kd n_kd n_kd) ∧ w'.cell? ⟨w18.heap.size, 0, none⟩ = some (.bool b_rn) ∧ w'.cell? ⟨w18.heap.size, 1, none⟩ = some (.slice A_rn n_rn n_rn) ∧ w'.cell? ⟨w18.heap.size, 2, none⟩ = some (.bool b_rd) ∧ w'.cell? ⟨w18.heap.size, 3, none⟩ = some (.slice A_rd n_rd n_rd)) (by kernel_rfl) ?_
  refine wpAnyL_take (i := 0) (v := ?_) rfl (by kernel_rfl) (by kernel_rfl) (by kernel_rfl) (by kernel_rfl) (by kernel_rfl) (fun _ _ _ h => h) (Or.inl ⟨by kernel_rfl, ?_⟩) s19 ?_
  rotate_left
  · rintro w' ⟨h1, h2, h3, h4, h5, h6, h7, h8, h9, h10, h11, h12⟩; go_simp; (try with_reducible rfl)
  try simp only [Act.put, List.getElem_toArray, List.getElem_cons_succ, List.getElem_cons_zero, List.setIfInBounds_toArray, List.set_cons_zero, List.set_cons_succ]
  refine wpAnyL_take (i := 1) (v := ?_) rfl (by kernel_rfl) (by kernel_rfl) (by kernel_rfl) (by kernel_rfl) (by kernel_rfl) (fun _ _ _ h => h) (Or.inl ⟨by kernel_rfl, ?_⟩) s19 ?_
  rotate_left
  · rintro w' ⟨h1, h2, h3, h4, h5, h6, h7, h8, h9, h10, h11, h12⟩; go_simp; (try with_reducible rfl)
  try simp only [Act.put, List.getElem_toArray, List.getElem_cons_succ, List.getElem_cons_zero, List.setIfInBounds_toArray, List.set_cons_zero, List.set_cons_succ]
  refine wpAnyL_take (i := 2) (v := ?_) rfl (by kernel_rfl) (by kernel_rfl) (by kernel_rfl) (by kernel_rfl) (by kernel_rfl) (fun _ _ _ h => h) (Or.inl ⟨by kernel_rfl, ?_⟩) s19 ?_
  rotate_left
  · rintro w' ⟨h1, h2, h3, h4, h5, h6, h7, h8, h9, h10, h11, h12⟩; go_simp; (try with_reducible rfl)
  try simp only [Act.put, List.getElem_toArray, List.getElem_cons_succ, List.getElem_cons_zero, List.setIfInBounds_toArray, List.set_cons_zero, List.set_cons_succ]
  refine wpAnyL_take (i := 3) (v := ?_) rfl (by kernel_rfl) (by kernel_rfl) (by kernel_rfl) (by kernel_rfl) (by kernel_rfl) (fun _ _ _ h => h) (Or.inl ⟨by kernel_rfl, ?_⟩) s19 ?_
  rotate_left
  · rintro w' ⟨h1, h2, h3, h4, h5, h6, h7, h8, h9, h10, h11, h12⟩; go_simp; (try with_reducible rfl)
  try simp only [Act.put, List.getElem_toArray, List.getElem_cons_succ, List.getElem_cons_zero, List.setIfInBounds_toArray, List.set_cons_zero, List.set_cons_succ]
  refine wpAnyL_take (i := 4) (v := ?_) rfl (by kernel_rfl) (by kernel_rfl) (by kernel_rfl) (by kernel_rfl) (by kernel_rfl) (fun _ _ _ h => h) (Or.inl ⟨by kernel_rfl, ?_⟩) s19 ?_
  rotate_left
  · rintro w' ⟨h1, h2, h3, h4, h5, h6, h7, h8, h9, h10, h11, h12⟩; go_simp; (try with_reducible rfl)
  try simp only [Act.put, List.getElem_toArray, List.getElem_cons_succ, List.getElem_cons_zero, List.setIfInBounds_toArray, List.set_cons_zero, List.set_cons_succ]
  refine wpAnyL_take (i := 5) (v := ?_) rfl (by kernel_rfl) (by kernel_rfl) (by kernel_rfl) (by kernel_rfl) (by kernel_rfl) (fun _ _ _ h => h) (Or.inl ⟨by kernel_rfl, ?_⟩) s19 ?_
  rotate_left
  · rintro w' ⟨h1, h2, h3, h4, h5, h6, h7, h8, h9, h10, h11, h12⟩; go_simp; (try with_reducible rfl)
  try simp only [Act.put, List.getElem_toArray, List.getElem_cons_succ, List.getElem_cons_zero, List.setIfInBounds_toArray, List.set_cons_zero, List.set_cons_succ]
  refine wpAnyL_take (i := 6) (v := ?_) rfl (by kernel_rfl) (by kernel_rfl) (by kernel_rfl) (by kernel_rfl) (by kernel_rfl) (fun _ _ _ h => h) (Or.inl ⟨by kernel_rfl, ?_⟩) s19 ?_
  rotate_left
  · rintro w' ⟨h1, h2, h3, h4, h5, h6, h7, h8, h9, h10, h11, h12⟩; go_simp; (try with_reducible rfl)
  try simp only [Act.put, List.getElem_toArray, List.getElem_cons_succ, List.getElem_cons_zero, List.setIfInBounds_toArray, List.set_cons_zero, List.set_cons_succ]
  refine wpAnyL_take (i := 7) (v := ?_) rfl (by kernel_rfl) (by kernel_rfl) (by kernel_rfl) (by kernel_rfl) (by kernel_rfl) (fun _ _ _ h => h) (Or.inl ⟨by kernel_rfl, ?_⟩) s19 ?_
  rotate_left
  · rintro w' ⟨h1, h2, h3, h4, h5, h6, h7, h8, h9, h10, h11, h12⟩; go_simp; (try with_reducible rfl)
  try simp only [Act.put, List.getElem_toArray, List.getElem_cons_succ, List.getElem_cons_zero, List.setIfInBounds_toArray, List.set_cons_zero, List.set_cons_succ]
  refine wpAnyL_take (i := 8) (v := ?_) rfl (by kernel_rfl) (by kernel_rfl) (by kernel_rfl) (by kernel_rfl) (by kernel_rfl) (fun _ _ _ h => h) (Or.inl ⟨by kernel_rfl, ?_⟩) s19 ?_
  rotate_left
  · rintro w' ⟨h1, h2, h3, h4, h5, h6, h7, h8, h9, h10, h11, h12⟩; go_simp; (try with_reducible rfl)
  try simp only [Act.put, List.getElem_toArray, List.getElem_cons_succ, List.getElem_cons_zero, List.setIfInBounds_toArray, List.set_cons_zero, List.set_cons_succ]
  refine wpAnyL_take (i := 9) (v := ?_) rfl (by kernel_rfl) (by kernel_rfl) (by kernel_rfl) (by kernel_rfl) (by kernel_rfl) (fun _ _ _ h => h) (Or.inl ⟨by kernel_rfl, ?_⟩) s19 ?_
  rotate_left
  · rintro w' ⟨h1, h2, h3, h4, h5, h6, h7, h8, h9, h10, h11, h12⟩; go_simp; (try with_reducible rfl)
  try simp only [Act.put, List.getElem_toArray, List.getElem_cons_succ, List.getElem_cons_zero, List.setIfInBounds_toArray, List.set_cons_zero, List.set_cons_succ]
  refine wpAnyL_take (i := 10) (v := ?_) rfl (by kernel_rfl) (by kernel_rfl) (by kernel_rfl) (by kernel_rfl) (by kernel_rfl) (fun _ _ _ h => h) (Or.inl ⟨by kernel_rfl, ?_⟩) s19 ?_
  rotate_left
  · rintro w' ⟨h1, h2, h3, h4, h5, h6, h7, h8, h9, h10, h11, h12⟩; go_simp; (try with_reducible rfl)
  try simp only [Act.put, List.getElem_toArray, List.getElem_cons_succ, List.getElem_cons_zero, List.setIfInBounds_toArray, List.set_cons_zero, List.set_cons_succ]
  refine wpAnyL_take (i := 11) (v := ?_) rfl (by kernel_rfl) (by kernel_rfl) (by kernel_rfl) (by kernel_rfl) (by kernel_rfl) (fun _ _ _ h => h) (Or.inl ⟨by kernel_rfl, ?_⟩) s19 ?_
  rotate_left
  · rintro w' ⟨h1, h2, h3, h4, h5, h6, h7, h8, h9, h10, h11, h12⟩; go_simp; (try with_reducible rfl)
  try simp only [Act.put, List.getElem_toArray, List.getElem_cons_succ, List.getElem_cons_zero, List.setIfInBounds_toArray, List.set_cons_zero, List.set_cons_succ]
  refine wpAnyL_one (i := 12) (by kernel_rfl) rfl (fun K hK => ?_)
  go_simp
  refine (rqplain (K := 4) (D19.z 13 rfl) (D19.z 12 rfl) (by decide) (by decide) (by decide) (by decide) Ha.out).mono ?_; rintro e w20 ⟨b_apn, A_apn, n_apn, c_apn, b_apd, A_apd, n_apd, c_apd, rfl, z_apn, z_apd, hb20⟩
  have R20 := (((D19.below hb20).add z_apn).add z_apd)
  have s20 := And.intro (R20.cell 6 0 rfl rfl) (And.intro (R20.cell 6 1 rfl rfl) (And.intro (R20.cell 6 2 rfl rfl) (And.intro (R20.cell 6 3 rfl rfl) (And.intro (R20.cell 1 0 rfl rfl) (And.intro (R20.cell 1 1 rfl rfl) (And.intro (R20.cell 1 2 rfl rfl) (And.intro (R20.cell 1 3 rfl rfl) (And.intro (R20.cell 0 0 rfl rfl) (And.intro (R20.cell 0 1 rfl rfl) (And.intro (R20.cell 0 2 rfl rfl) (R20.cell 0 3 rfl rfl)))))))))))
  clear z_apn z_apd hb20 D19 s19
  go_wp2_with fail
  refine hK.out _ _ (fun _ => s20) ?_
  clear hK K
  try simp only [Act.put, List.getElem_toArray, List.getElem_cons_succ, List.getElem_cons_zero, List.setIfInBounds_toArray, List.set_cons_zero, List.set_cons_succ]
  refine wpAnyL_one (i := 13) (by kernel_rfl) rfl (fun K hK => ?_)
  go_simp
  refine (rqsame (R20.z 5 rfl) (R20.z 4 rfl) (R20.z 1 rfl) (R20.z 0 rfl) (by decide) (by decide) (by decide) (by decide) (qsame_eq rfl)).mono ?_; rintro e w21 ⟨rfl, hb21⟩
  have R21 := (R20.below hb21)
  have s21 := And.intro (R21.cell 6 0 rfl rfl) (And.intro (R21.cell 6 1 rfl rfl) (And.intro (R21.cell 6 2 rfl rfl) (And.intro (R21.cell 6 3 rfl rfl) (And.intro (R21.cell 1 0 rfl rfl) (And.intro (R21.cell 1 1 rfl rfl) (And.intro (R21.cell 1 2 rfl rfl) (And.intro (R21.cell 1 3 rfl rfl) (And.intro (R21.cell 0 0 rfl rfl) (And.intro (R21.cell 0 1 rfl rfl) (And.intro (R21.cell 0 2 rfl rfl) (R21.cell 0 3 rfl rfl)))))))))))
  clear hb21 R20 s20
  go_wp2_with fail
  refine hK.out _ _ (fun _ => s21) ?_
  clear hK K
  try simp only [Act.put, List.getElem_toArray, List.getElem_cons_succ, List.getElem_cons_zero, List.setIfInBounds_toArray, List.set_cons_zero, List.set_cons_succ]
  refine wpAnyL_take (i := 14) (v := ?_) rfl (by kernel_rfl) (by kernel_rfl) (by kernel_rfl) (by kernel_rfl) (by kernel_rfl) (fun _ _ _ h => h) (Or.inl ⟨by kernel_rfl, ?_⟩) s21 ?_
  rotate_left
  · rintro w' ⟨h1, h2, h3, h4, h5, h6, h7, h8, h9, h10, h11, h12⟩; go_simp; (try with_reducible rfl)
  try simp only [Act.put, List.getElem_toArray, List.getElem_cons_succ, List.getElem_cons_zero, List.setIfInBounds_toArray, List.set_cons_zero, List.set_cons_succ]
  refine wpAnyL_take (i := 15) (v := ?_) rfl (by kernel_rfl) (by kernel_rfl) (by kernel_rfl) (by kernel_rfl) (by kernel_rfl) (fun _ _ _ h => h) (Or.inl ⟨by kernel_rfl, ?_⟩) s21 ?_
  rotate_left
  · rintro w' ⟨h1, h2, h3, h4, h5, h6, h7, h8, h9, h10, h11, h12⟩; go_simp; (try with_reducible rfl)
  try simp only [Act.put, List.getElem_toArray, List.getElem_cons_succ, List.getElem_cons_zero, List.setIfInBounds_toArray, List.set_cons_zero, List.set_cons_succ]
  refine wpAnyL_take (i := 16) (v := ?_) rfl (by kernel_rfl) (by kernel_rfl) (by kernel_rfl) (by kernel_rfl) (by kernel_rfl) (fun _ _ _ h => h) (Or.inl ⟨by kernel_rfl, ?_⟩) s21 ?_
  rotate_left
  · rintro w' ⟨h1, h2, h3, h4, h5, h6, h7, h8, h9, h10, h11, h12⟩; go_simp; (try with_reducible rfl)
  try simp only [Act.put, List.getElem_toArray, List.getElem_cons_succ, List.getElem_cons_zero, List.setIfInBounds_toArray, List.set_cons_zero, List.set_cons_succ]
  refine wpAnyL_take (i := 17) (v := ?_) rfl (by kernel_rfl) (by kernel_rfl) (by kernel_rfl) (by kernel_rfl) (by kernel_rfl) (fun _ _ _ h => h) (Or.inl ⟨by kernel_rfl, ?_⟩) s21 ?_
  rotate_left
  · rintro w' ⟨h1, h2, h3, h4, h5, h6, h7, h8, h9, h10, h11, h12⟩; go_simp; (try with_reducible rfl)
  try simp only [Act.put, List.getElem_toArray, List.getElem_cons_succ, List.getElem_cons_zero, List.setIfInBounds_toArray, List.set_cons_zero, List.set_cons_succ]
  refine wpAnyL_one (i := 18) (by kernel_rfl) rfl (fun K hK => ?_)
  go_simp
  refine (rqsame (R21.z 3 rfl) (R21.z 2 rfl) (R21.z 5 rfl) (R21.z 4 rfl) (by decide) (by decide) (by decide) (by decide) (qsame_eq rfl)).mono ?_; rintro e w22 ⟨rfl, hb22⟩
  have R22 := (R21.below hb22)
  have s22 := And.intro (R22.cell 6 0 rfl rfl) (And.intro (R22.cell 6 1 rfl rfl) (And.intro (R22.cell 6 2 rfl rfl) (And.intro (R22.cell 6 3 rfl rfl) (And.intro (R22.cell 1 0 rfl rfl) (And.intro (R22.cell 1 1 rfl rfl) (And.intro (R22.cell 1 2 rfl rfl) (And.intro (R22.cell 1 3 rfl rfl) (And.intro (R22.cell 0 0 rfl rfl) (And.intro (R22.cell 0 1 rfl rfl) (And.intro (R22.cell 0 2 rfl rfl) (R22.cell 0 3 rfl rfl)))))))))))
  clear hb22 R21 s21
  go_wp2_with fail
  refine hK.out _ _ (fun _ => s22) ?_
  clear hK K
  try simp only [Act.put, List.getElem_toArray, List.getElem_cons_succ, List.getElem_cons_zero, List.setIfInBounds_toArray, List.set_cons_zero, List.set_cons_succ]
  refine wpAnyL_take (i := 19) (v := ?_) rfl (by kernel_rfl) (by kernel_rfl) (by kernel_rfl) (by kernel_rfl) (by kernel_rfl) (fun _ _ _ h => h) (Or.inl ⟨by kernel_rfl, ?_⟩) s22 ?_
  rotate_left
  · rintro w' ⟨h1, h2, h3, h4, h5, h6, h7, h8, h9, h10, h11, h12⟩; go_simp; (try with_reducible rfl)
  try simp only [Act.put, List.getElem_toArray, List.getElem_cons_succ, List.getElem_cons_zero, List.setIfInBounds_toArray, List.set_cons_zero, List.set_cons_succ]
  refine wpAnyL_one (i := 20) (by kernel_rfl) rfl (fun K hK => ?_)
  go_simp
  refine hK.out _ _ (fun _ => s22) ?_
  clear hK K
  try simp only [Act.put, List.getElem_toArray, List.getElem_cons_succ, List.getElem_cons_zero, List.setIfInBounds_toArray, List.set_cons_zero, List.set_cons_succ]
  refine wpAnyL_done (by kernel_rfl) ?_ _
  go_wp2_with fail
  go_ret
  exact ⟨rfl, R22.bel⟩
end Go.Proofs.YticjhlbmdjijnaaGreatDoor
