/- WholeWrites: what is written is what the document says, and is read. No condition. -/
import Derived.Test.YtodgchflhimjfaaDoorGP
import Derived.Test.YtodgchflhimjfaaDoorHZMath
namespace Go.Proofs.YtodgchflhimjfaaDoor
open Go.RowKit

set_option maxRecDepth 100000 in
set_option maxHeartbeats 6400000 in
theorem wholeWrites_any (ba : Bool) (Aa : Option Addr) (na ca : Nat) (la : List Nat) (ss : ByteArray) (Ab : Option Addr) (nb cb : Nat) (lb : List Nat) (w : World) (hra : Lim w Aa na ca la) (hna : na ≤ maxLen) (hss : ss.size ≤ 9223372036854775807) (hrb : Byt w Ab nb cb lb) (hnb : nb ≤ maxLen) :
    Calls Tryd.prog 8 #[.agg #[.bool ba, .slice Aa na ca], .string ss, .slice Ab nb cb] w fun e w' => e = .returned (.bool true) ∧ Below w.heap.size w w' := by
  unfold maxLen at hna hnb
  obtain ⟨ls, hls, hl256⟩ : ∃ l, ss = str l ∧ ∀ x ∈ l, x < 256 := ⟨bl ss, (str_bl ss).symm, bl_lt ss⟩
  subst hls
  obtain ⟨ns, hns⟩ : ∃ n, ls.length = n := ⟨_, rfl⟩
  have hS : (str ls).size = ns := by rw [str_size, hns]
  by_cases ha : 14 < na
  · have R0 := (((Env.nil_ w).add (ZIs.of_lim (b := ba) (k := na) hra (Nat.le_refl _))).alloc 24 #[.bool ba, .slice Aa na ca] (g := w.heap.size) rfl rfl)
    generalize str ls = S at *
    go_enter Tryd.func8, Tryd.ntmps8
    go_wp2_with fail
    refine (wawake_any _).mono ?_
    rintro e w1 ⟨rfl, hb1⟩
    have R1 := (R0.below hb1)
    have k2a0 := R1.cell 0 0 rfl rfl
    have k2a1 := R1.cell 0 1 rfl rfl
    go_wp2_with fail
    clear k2a0 k2a1
    refine (zfew_no (by omega)).mono ?_
    rintro e w2 ⟨rfl, hb2⟩
    have R2 := (R1.below hb2)
    have ka0 := R2.cell 0 0 rfl rfl
    have ka1 := R2.cell 0 1 rfl rfl
    go_wp2_with fail
    go_ret
    exact ⟨rfl, R2.bel⟩
  by_cases h1 : 300 < ns
  · have R0 := (((Env.nil_ w).add (ZIs.of_lim (b := ba) (k := na) hra (Nat.le_refl _))).alloc 24 #[.bool ba, .slice Aa na ca] (g := w.heap.size) rfl rfl)
    generalize str ls = S at *
    go_enter Tryd.func8, Tryd.ntmps8
    go_wp2_with fail
    refine (wawake_any _).mono ?_
    rintro e w1 ⟨rfl, hb1⟩
    have R1 := (R0.below hb1)
    have k2a0 := R1.cell 0 0 rfl rfl
    have k2a1 := R1.cell 0 1 rfl rfl
    go_wp2_with fail
    clear k2a0 k2a1
    refine (zfew_yes (by omega)).mono ?_
    rintro e w2 ⟨rfl, hb2⟩
    have R2 := (R1.below hb2)
    have ka0 := R2.cell 0 0 rfl rfl
    have ka1 := R2.cell 0 1 rfl rfl
    go_wp2_with fail
    go_ret
    exact ⟨rfl, R2.bel⟩
  by_cases h2 : 17000 < nb
  · have R0 := (((Env.nil_ w).add (ZIs.of_lim (b := ba) (k := na) hra (Nat.le_refl _))).alloc 24 #[.bool ba, .slice Aa na ca] (g := w.heap.size) rfl rfl)
    generalize str ls = S at *
    go_enter Tryd.func8, Tryd.ntmps8
    go_wp2_with fail
    refine (wawake_any _).mono ?_
    rintro e w1 ⟨rfl, hb1⟩
    have R1 := (R0.below hb1)
    have k2a0 := R1.cell 0 0 rfl rfl
    have k2a1 := R1.cell 0 1 rfl rfl
    go_wp2_with fail
    clear k2a0 k2a1
    refine (zfew_yes (by omega)).mono ?_
    rintro e w2 ⟨rfl, hb2⟩
    have R2 := (R1.below hb2)
    have ka0 := R2.cell 0 0 rfl rfl
    have ka1 := R2.cell 0 1 rfl rfl
    go_wp2_with fail
    go_ret
    exact ⟨rfl, R2.bel⟩
  have R0 := (((Env.nil_ w).add (ZIs.of_lim (b := ba) (k := 14) hra (by omega))).alloc 24 #[.bool ba, .slice Aa na ca] (g := w.heap.size) rfl rfl)
  obtain ⟨za, hza⟩ : ∃ z, zv ba (vl la) = z := ⟨_, rfl⟩
  rw [hza] at R0
  clear hza
  have hp := fun w0 => zparse ls hl256 w0 (by omega)
  have hrp := fun w0 => rzparse ls hl256 w0 (by omega)
  obtain ⟨okv, hokv⟩ : ∃ b, zok ls = b := ⟨_, rfl⟩
  rw [hokv] at hp hrp
  have h14 := (R0.z 0 rfl).lt
  have hm4 : (lmb za.natAbs).length ≤ 4096 := Nat.le_trans (Num.dig_len_le (by decide) 14 _ h14) (by decide)
  have hx := ztx_all za 139 (Nat.lt_of_lt_of_le h14 (by decide)) (by decide)
  have hpt := fun w0 => zparse (ztx za) hx.2.2.1 w0 (by have := hx.2.2.2; omega)
  rw [hx.1, hx.2.1] at hpt
  have hz := zenc_all za hm4 []
  rw [List.append_nil] at hz
  have hrx := fun A n c w0 h0 hn => zread A n c (zenc za) w0 h0 hn
  simp only [hz.1, hz.2.1, hz.2.2] at hrx
  have hle : (zenc za).length ≤ 17000 := by rw [zenc_len za hm4]; omega
  have hra0 : Byt w Ab nb cb lb := hrb
  have Yb0 := hrb.alloc (.cells #[.bool ba, .slice Aa na ca] 24)
  obtain ⟨rok, hrok⟩ : ∃ b, zrok lb = b := ⟨_, rfl⟩
  have hrd := fun w0 h0 => zread Ab nb cb lb w0 h0 (by omega)
  have hrrd := fun w0 h0 => rzread Ab nb cb lb w0 h0 (by omega)
  rw [hrok] at hrd hrrd
  clear hokv hrok h14 hm4 hx hns hl256 hra hrb hra0 hz
  generalize str ls = S at *
  go_enter Tryd.func8, Tryd.ntmps8
  go_wp2_with fail
  refine (wawake_any _).mono ?_
  rintro e w1 ⟨rfl, hb1⟩
  have R1 := (R0.below hb1)
  have Yb1 := (Yb0.below hb1)
  have k2a0 := R1.cell 0 0 rfl rfl
  have k2a1 := R1.cell 0 1 rfl rfl
  go_wp2_with fail
  clear k2a0 k2a1
  refine (zfew_yes (by omega)).mono ?_
  rintro e w2 ⟨rfl, hb2⟩
  have R2 := (R1.below hb2)
  have Yb2 := (Yb1.below hb2)
  go_wp2_with fail
  refine (hp _).mono ?_
  rintro e w3 ⟨b_p, A_p, n_p, rfl, z_p, hb3⟩
  have R3 := (((R2.below hb3).add z_p).alloc 24 #[.bool b_p, .slice A_p n_p n_p] (g := w3.heap.size) rfl rfl)
  have Yb3 := ((Yb2.below hb3).alloc (.cells #[.bool b_p, .slice A_p n_p n_p] 24))
  go_wp2_with fail
  refine (hrp _).mono ?_
  rintro e w4 ⟨b_q, A_q, n_q, c_q, rfl, z_q, hb4⟩
  have R4 := (((R3.below hb4).add z_q).alloc 24 #[.bool b_q, .slice A_q n_q c_q] (g := w4.heap.size) rfl rfl)
  have Yb4 := ((Yb3.below hb4).alloc (.cells #[.bool b_q, .slice A_q n_q c_q] 24))
  go_wp2_with fail
  refine (hrd _ Yb4).mono ?_
  rintro e w5 ⟨b_n, A_n, n_n, A_rest, m_rest, c_rest, rfl, hm_rest, z_n, y_rest, hb5⟩
  have R5 := (((R4.below hb5).add z_n).alloc 24 #[.bool b_n, .slice A_n n_n n_n] (g := w5.heap.size) rfl rfl)
  have Yb5 := ((Yb4.below hb5).alloc (.cells #[.bool b_n, .slice A_n n_n n_n] 24))
  have Yrest5 := (y_rest.alloc (.cells #[.bool b_n, .slice A_n n_n n_n] 24))
  go_wp2_with fail
  refine (hrrd _ Yb5).mono ?_
  rintro e w6 ⟨b_m, A_m, n_m, c_m, A_left, m_left, c_left, rfl, hm_left, z_m, y_left, hb6⟩
  have R6 := (((R5.below hb6).add z_m).alloc 24 #[.bool b_m, .slice A_m n_m c_m] (g := w6.heap.size) rfl rfl)
  have Yb6 := ((Yb5.below hb6).alloc (.cells #[.bool b_m, .slice A_m n_m c_m] 24))
  have Yrest6 := ((Yrest5.below hb6).alloc (.cells #[.bool b_m, .slice A_m n_m c_m] 24))
  have Yleft6 := (y_left.alloc (.cells #[.bool b_m, .slice A_m n_m c_m] 24))
  have k7a0 := R6.cell 4 0 rfl rfl
  have k7a1 := R6.cell 4 1 rfl rfl
  go_wp2_with fail
  clear k7a0 k7a1
  refine (zbytes (R6.z 4 rfl) (by decide)).mono ?_
  rintro e w7 ⟨A_x, m_x, c_x, rfl, hm_x, y_x, hb7⟩
  have R7 := (R6.below hb7)
  have Yb7 := (Yb6.below hb7)
  have Yrest7 := (Yrest6.below hb7)
  have Yleft7 := (Yleft6.below hb7)
  have Yx7 := y_x.ints
  obtain ⟨T, hT⟩ : ∃ T, str (ztx za) = T := ⟨_, rfl⟩
  have HT := Lib.hid hT
  rw [hT] at hpt
  clear hT
  go_wp2_with fail
  have D8 := R7.drew
  have Yb8 := Yb7.drew
  have Yrest8 := Yrest7.drew
  have Yleft8 := Yleft7.drew
  have Yx8 := Yx7.drew
  have s8 := And.intro (D8.cell 4 0 rfl rfl) (And.intro (D8.cell 4 1 rfl rfl) (And.intro (D8.cell 3 0 rfl rfl) (And.intro (D8.cell 3 1 rfl rfl) (And.intro (D8.cell 2 0 rfl rfl) (And.intro (D8.cell 2 1 rfl rfl) (And.intro (D8.cell 1 0 rfl rfl) (And.intro (D8.cell 1 1 rfl rfl) (And.intro (D8.cell 0 0 rfl rfl) (D8.cell 0 1 rfl rfl)))))))))
  go_region_held3 (fun w' => w'.cell? ⟨w.heap.size, 0, none⟩ = some (.bool ba) ∧ w'.cell? ⟨w.heap.size, 1, none⟩ = some (.slice Aa na ca) ∧ w'.cell? ⟨w3.heap.size, 0, none⟩ = some (.bool b_p) ∧ w'.cell? ⟨w3.heap.size, 1, none⟩ = some (.slice A_p n_p n_p) ∧ w'.cell? ⟨w4.heap.size, 0, none⟩ = some (.bool b_q) ∧ w'.cell? ⟨w4.heap.size, 1, none⟩ = some (.slice A_q n_q c_q) ∧ w'.cell? ⟨w5.heap.size, 0, none⟩ = some (.bool b_n) ∧ w'.cell? ⟨w5.heap.size, 1, none⟩ = some (.slice A_n n_n n_n) ∧ w'.cell? ⟨w6.heap.size, 0, none⟩ = some (.bool b_m) ∧ w'.cell? ⟨w6.heap.size, 1, none⟩ = some (.slice A_m n_m c_m))
    (with_reducible assumption)
    ((first
      | (go_at_call 36; show Calls _ _ _ w14 _; refine (rows_true _ _ _ _ _ _ _ _ _ Yrest14 Yleft14 (by omega) (by omega) rfl).mono ?_; rintro e w15 ⟨rfl, hb15⟩; have R15 := (R14.below hb15); have Yb15 := Yb14.below hb15; have Yrest15 := Yrest14.below hb15; have Yleft15 := Yleft14.below hb15; have Yx15 := Yx14.below hb15; have Yxr15 := Yxr14.below hb15; have s15 := And.intro (R15.cell 4 0 rfl rfl) (And.intro (R15.cell 4 1 rfl rfl) (And.intro (R15.cell 3 0 rfl rfl) (And.intro (R15.cell 3 1 rfl rfl) (And.intro (R15.cell 2 0 rfl rfl) (And.intro (R15.cell 2 1 rfl rfl) (And.intro (R15.cell 1 0 rfl rfl) (And.intro (R15.cell 1 1 rfl rfl) (And.intro (R15.cell 0 0 rfl rfl) (R15.cell 0 1 rfl rfl))))))))))
      | (go_at_call 14; show Calls _ _ _ w13 _; refine (zsame_true (R13.z 1 rfl) (R13.z 0 rfl) (by decide) (by decide) rfl).mono ?_; rintro e w14 ⟨rfl, hb14⟩; have R14 := (R13.below hb14); have Yb14 := Yb13.below hb14; have Yrest14 := Yrest13.below hb14; have Yleft14 := Yleft13.below hb14; have Yx14 := Yx13.below hb14; have Yxr14 := Yxr13.below hb14; have s14 := And.intro (R14.cell 4 0 rfl rfl) (And.intro (R14.cell 4 1 rfl rfl) (And.intro (R14.cell 3 0 rfl rfl) (And.intro (R14.cell 3 1 rfl rfl) (And.intro (R14.cell 2 0 rfl rfl) (And.intro (R14.cell 2 1 rfl rfl) (And.intro (R14.cell 1 0 rfl rfl) (And.intro (R14.cell 1 1 rfl rfl) (And.intro (R14.cell 0 0 rfl rfl) (R14.cell 0 1 rfl rfl))))))))))
      | (go_at_call 36; show Calls _ _ _ w12 _; refine (rows_true _ _ _ _ _ _ _ _ _ Yx12 Yxr12 (by omega) (by have := y_xr.len; omega) rfl).mono ?_; rintro e w13 ⟨rfl, hb13⟩; have R13 := (R12.below hb13); have Yb13 := Yb12.below hb13; have Yrest13 := Yrest12.below hb13; have Yleft13 := Yleft12.below hb13; have Yx13 := Yx12.below hb13; have Yxr13 := Yxr12.below hb13; have s13 := And.intro (R13.cell 4 0 rfl rfl) (And.intro (R13.cell 4 1 rfl rfl) (And.intro (R13.cell 3 0 rfl rfl) (And.intro (R13.cell 3 1 rfl rfl) (And.intro (R13.cell 2 0 rfl rfl) (And.intro (R13.cell 2 1 rfl rfl) (And.intro (R13.cell 1 0 rfl rfl) (And.intro (R13.cell 1 1 rfl rfl) (And.intro (R13.cell 0 0 rfl rfl) (R13.cell 0 1 rfl rfl))))))))))
      | (go_at_call 37; show Calls _ _ _ w11 _; refine (rzbytes (R11.z 4 rfl) (by decide)).mono ?_; rintro e w12 ⟨A_xr, m_xr, c_xr, rfl, y_xr, hb12⟩; have R12 := (R11.below hb12); have Yb12 := Yb11.below hb12; have Yrest12 := Yrest11.below hb12; have Yleft12 := Yleft11.below hb12; have Yx12 := Yx11.below hb12; have Yxr12 := y_xr.ints; have s12 := And.intro (R12.cell 4 0 rfl rfl) (And.intro (R12.cell 4 1 rfl rfl) (And.intro (R12.cell 3 0 rfl rfl) (And.intro (R12.cell 3 1 rfl rfl) (And.intro (R12.cell 2 0 rfl rfl) (And.intro (R12.cell 2 1 rfl rfl) (And.intro (R12.cell 1 0 rfl rfl) (And.intro (R12.cell 1 1 rfl rfl) (And.intro (R12.cell 0 0 rfl rfl) (R12.cell 0 1 rfl rfl))))))))))
      | (go_at_call 14; show Calls _ _ _ w10 _; refine (zsame_true (R10.z 3 rfl) (R10.z 2 rfl) (by decide) (by decide) rfl).mono ?_; rintro e w11 ⟨rfl, hb11⟩; have R11 := (R10.below hb11); have Yb11 := Yb10.below hb11; have Yrest11 := Yrest10.below hb11; have Yleft11 := Yleft10.below hb11; have Yx11 := Yx10.below hb11; have s11 := And.intro (R11.cell 4 0 rfl rfl) (And.intro (R11.cell 4 1 rfl rfl) (And.intro (R11.cell 3 0 rfl rfl) (And.intro (R11.cell 3 1 rfl rfl) (And.intro (R11.cell 2 0 rfl rfl) (And.intro (R11.cell 2 1 rfl rfl) (And.intro (R11.cell 1 0 rfl rfl) (And.intro (R11.cell 1 1 rfl rfl) (And.intro (R11.cell 0 0 rfl rfl) (R11.cell 0 1 rfl rfl))))))))))
      | (go_at_call 29; show Calls _ _ _ w9 _; refine (rztext (R9.z 4 rfl) (by decide)).mono ?_; rintro e w10 ⟨rfl, hb10⟩; have R10 := (R9.below hb10); have Yb10 := Yb9.below hb10; have Yrest10 := Yrest9.below hb10; have Yleft10 := Yleft9.below hb10; have Yx10 := Yx9.below hb10; have s10 := And.intro (R10.cell 4 0 rfl rfl) (And.intro (R10.cell 4 1 rfl rfl) (And.intro (R10.cell 3 0 rfl rfl) (And.intro (R10.cell 3 1 rfl rfl) (And.intro (R10.cell 2 0 rfl rfl) (And.intro (R10.cell 2 1 rfl rfl) (And.intro (R10.cell 1 0 rfl rfl) (And.intro (R10.cell 1 1 rfl rfl) (And.intro (R10.cell 0 0 rfl rfl) (R10.cell 0 1 rfl rfl))))))))); rw [HT.out])
      | (go_at_call 28; refine (ztext (D8.z 4 rfl) (by decide)).mono ?_; rintro e w9 ⟨rfl, hb9⟩; have R9 := (D8.below hb9); have Yb9 := Yb8.below hb9; have Yrest9 := Yrest8.below hb9; have Yleft9 := Yleft8.below hb9; have Yx9 := Yx8.below hb9; have s9 := And.intro (R9.cell 4 0 rfl rfl) (And.intro (R9.cell 4 1 rfl rfl) (And.intro (R9.cell 3 0 rfl rfl) (And.intro (R9.cell 3 1 rfl rfl) (And.intro (R9.cell 2 0 rfl rfl) (And.intro (R9.cell 2 1 rfl rfl) (And.intro (R9.cell 1 0 rfl rfl) (And.intro (R9.cell 1 1 rfl rfl) (And.intro (R9.cell 0 0 rfl rfl) (R9.cell 0 1 rfl rfl))))))))); rw [HT.out])))
  go_wp2_with fail
  have k16a0 := R15.cell 4 0 rfl rfl
  have k16a1 := R15.cell 4 1 rfl rfl
  clear k16a0 k16a1
  refine (ztext (R15.z 4 rfl) (by decide)).mono ?_
  rintro e w16 ⟨rfl, hb16⟩
  have R16 := (R15.below hb16)
  have Yb16 := (Yb15.below hb16)
  have Yrest16 := (Yrest15.below hb16)
  have Yleft16 := (Yleft15.below hb16)
  have Yx16 := (Yx15.below hb16)
  have Yxr16 := (Yxr15.below hb16)
  rw [HT.out]
  go_wp2_with fail
  refine (hpt _).mono ?_
  rintro e w17 ⟨b_k, A_k, n_k, rfl, z_k, hb17⟩
  have R17 := (((R16.below hb17).add z_k).alloc 24 #[.bool b_k, .slice A_k n_k n_k] (g := w17.heap.size) rfl rfl)
  have Yb17 := ((Yb16.below hb17).alloc (.cells #[.bool b_k, .slice A_k n_k n_k] 24))
  have Yrest17 := ((Yrest16.below hb17).alloc (.cells #[.bool b_k, .slice A_k n_k n_k] 24))
  have Yleft17 := ((Yleft16.below hb17).alloc (.cells #[.bool b_k, .slice A_k n_k n_k] 24))
  have Yx17 := ((Yx16.below hb17).alloc (.cells #[.bool b_k, .slice A_k n_k n_k] 24))
  have Yxr17 := ((Yxr16.below hb17).alloc (.cells #[.bool b_k, .slice A_k n_k n_k] 24))
  go_wp2_with fail
  refine (hrx _ _ _ _ Yx17 (by omega)).mono ?_
  rintro e w18 ⟨b_r, A_r, n_r, A_none, m_none, c_none, rfl, hm_none, z_r, y_none, hb18⟩
  have R18 := (((R17.below hb18).add z_r).alloc 24 #[.bool b_r, .slice A_r n_r n_r] (g := w18.heap.size) rfl rfl)
  have Yb18 := ((Yb17.below hb18).alloc (.cells #[.bool b_r, .slice A_r n_r n_r] 24))
  have Yrest18 := ((Yrest17.below hb18).alloc (.cells #[.bool b_r, .slice A_r n_r n_r] 24))
  have Yleft18 := ((Yleft17.below hb18).alloc (.cells #[.bool b_r, .slice A_r n_r n_r] 24))
  have Yx18 := ((Yx17.below hb18).alloc (.cells #[.bool b_r, .slice A_r n_r n_r] 24))
  have Yxr18 := ((Yxr17.below hb18).alloc (.cells #[.bool b_r, .slice A_r n_r n_r] 24))
  have Ynone18 := (y_none.alloc (.cells #[.bool b_r, .slice A_r n_r n_r] 24))
  obtain rfl : 0 = m_none := y_none.len
  go_wp2_with fail
  have D19 := R18.drew
  have s19 := And.intro (D19.cell 6 0 rfl rfl) (And.intro (D19.cell 6 1 rfl rfl) (And.intro (D19.cell 1 0 rfl rfl) (And.intro (D19.cell 1 1 rfl rfl) (And.intro (D19.cell 0 0 rfl rfl) (D19.cell 0 1 rfl rfl)))))
  go_region_held3 (fun w' => w'.cell? ⟨w.heap.size, 0, none⟩ = some (.bool ba) ∧ w'.cell? ⟨w.heap.size, 1, none⟩ = some (.slice Aa na ca) ∧ w'.cell? ⟨w17.heap.size, 0, none⟩ = some (.bool b_k) ∧ w'.cell? ⟨w17.heap.size, 1, none⟩ = some (.slice A_k n_k n_k) ∧ w'.cell? ⟨w18.heap.size, 0, none⟩ = some (.bool b_r) ∧ w'.cell? ⟨w18.heap.size, 1, none⟩ = some (.slice A_r n_r n_r))
    (with_reducible assumption)
    ((first
      | (go_at_call 14; show Calls _ _ _ w21 _; refine (zsame_true (R21.z 1 rfl) (R21.z 2 rfl) (by decide) (by decide) rfl).mono ?_; rintro e w22 ⟨rfl, hb22⟩; have R22 := (R21.below hb22); have s22 := And.intro (R22.cell 6 0 rfl rfl) (And.intro (R22.cell 6 1 rfl rfl) (And.intro (R22.cell 1 0 rfl rfl) (And.intro (R22.cell 1 1 rfl rfl) (And.intro (R22.cell 0 0 rfl rfl) (R22.cell 0 1 rfl rfl))))))
      | (go_at_call 14; show Calls _ _ _ w20 _; refine (zsame_true (R20.z 2 rfl) (R20.z 0 rfl) (by decide) (by decide) rfl).mono ?_; rintro e w21 ⟨rfl, hb21⟩; have R21 := (R20.below hb21); have s21 := And.intro (R21.cell 6 0 rfl rfl) (And.intro (R21.cell 6 1 rfl rfl) (And.intro (R21.cell 1 0 rfl rfl) (And.intro (R21.cell 1 1 rfl rfl) (And.intro (R21.cell 0 0 rfl rfl) (R21.cell 0 1 rfl rfl))))))
      | (go_at_call 16; refine (rplain_t (K := 14) (D19.z 6 rfl) (by decide) (by decide)).mono ?_; rintro e w20 ⟨b_ap, A_ap, n_ap, c_ap, rfl, z_ap, hb20⟩; have R20 := ((D19.below hb20).add z_ap); have s20 := And.intro (R20.cell 6 0 rfl rfl) (And.intro (R20.cell 6 1 rfl rfl) (And.intro (R20.cell 1 0 rfl rfl) (And.intro (R20.cell 1 1 rfl rfl) (And.intro (R20.cell 0 0 rfl rfl) (R20.cell 0 1 rfl rfl))))))))
  go_wp2_with fail
  go_ret
  exact ⟨rfl, R22.bel⟩
end Go.Proofs.YtodgchflhimjfaaDoor
