/- The contracts of heijunkaref03: Zero, May, Plain, Of. No condition but the reach of a slice. -/
import Derived.Test.YticjhlbmdjijnaaGreatDoorHQH
namespace Go.Proofs.YticjhlbmdjijnaaGreatDoor
set_option linter.unusedSimpArgs false
set_option linter.unusedVariables false
open Go.RowKit

set_option maxRecDepth 100000 in
set_option maxHeartbeats 400000 in
theorem rqzero (w : World) : Calls Tryz.prog 25 #[] w fun e w' => ∃ b3 A3 n3 c3 b4 A4 n4 c4, e = .returned (.agg #[.bool b3, .slice A3 n3 c3, .bool b4, .slice A4 n4 c4]) ∧ ZIs w' b3 A3 n3 c3 ((0 : Rat).num) 1 true ∧ ZIs w' b4 A4 n4 c4 (((0 : Rat).den : Nat) : Int) 1 true ∧ Below w.heap.size w w' := by
  have h1 := fun w0 => rzof 1 w0 (by decide) (by decide)
  have R0 := (Env.nil_ w).alloc 26 #[.bool false, .slice none 0 0, .bool false, .slice none 0 0] (g := w.heap.size) rfl rfl
  go_enter Tryz.func25, Tryz.ntmps25
  go_wp2_with fail
  refine (h1 _).mono ?_; rintro e w1 ⟨b_x, A_x, n_x, c_x, rfl, z_x, hb1⟩
  have R1 := ((R0.below hb1).add z_x)
  have zr0 := R1.cell 0 0 rfl rfl
  have zr1 := R1.cell 0 1 rfl rfl
  have zr2 := R1.cell 0 2 rfl rfl
  have zr3 := R1.cell 0 3 rfl rfl
  have zfr0 := R1.frozen 0 0 rfl
  have zfr1 := R1.frozen 0 1 rfl
  have zfr2 := R1.frozen 0 2 rfl
  have zfr3 := R1.frozen 0 3 rfl
  go_wp2_with fail
  have R9_ := R1.st4 0 (.bool false) (.slice none 0 0) (.bool b_x) (.slice A_x n_x c_x) rfl rfl rfl rfl rfl
  refine bodyPost_ret (results_cell_row rfl _ _ (w.heap.size) 26 #[.bool false, .slice none 0 0, .bool b_x, .slice A_x n_x c_x] (0, 0) _ rfl (R9_.b 0 rfl).is Tryz.underlying26 rfl (by kernel_rfl)) rfl ?_
  exact ⟨_, _, _, _, _, _, _, _, rfl, ZIs.nil_ .., (R9_.z 0 rfl).tight (by decide), R9_.bel⟩
set_option maxRecDepth 100000 in
set_option maxHeartbeats 800000 in
theorem rqmay {w : World} {a b : Bool} {A B : Option Addr} {n c m d : Nat} {x y : Int} {i j : Nat} {p q : Bool} (ha : ZIs w a A n c x i p) (hb : ZIs w b B m d y j q) (hj : j ≤ 268435456) {z : Bool} (hz : decide (0 < y) = z) : Calls Tryz.prog 33 #[.agg #[.bool a, .slice A n c, .bool b, .slice B m d]] w fun e w' => e = .returned (.bool z) ∧ Below w.heap.size w w' := by
  obtain ⟨l, hl, hv, hx⟩ := hb.lim
  have hf := hb.few
  have ht := fun w0 h0 => rtrim_any B m d l w0 h0 (by omega)
  rw [hv] at ht hx
  have R0 := ((Env.nil_ w).add ha).alloc 26 #[.bool a, .slice A n c, .bool b, .slice B m d] (g := w.heap.size) rfl rfl
  have hl2 := hl.alloc (.cells #[.bool a, .slice A n c, .bool b, .slice B m d] 26)
  have HX := Lib.hid hx
  have HZ := Lib.hid hz
  clear hx hz hv
  go_enter Tryz.func33, Tryz.ntmps33
  have ka0 := R0.cell 0 0 rfl rfl
  have ka1 := R0.cell 0 1 rfl rfl
  have ka2 := R0.cell 0 2 rfl rfl
  have ka3 := R0.cell 0 3 rfl rfl
  go_wp2_with fail
  clear ka0 ka1 ka2 ka3
  refine (ht _ hl2).mono ?_; rintro e w1 ⟨A_t, m_t, c_t, rfl, hm_t, ho_t, hb1⟩
  have R1 := R0.below hb1
  have hlen := ho_t.len
  have h00 := Num.dig_eq_nil (b := 4294967296) (by decide) y.natAbs
  have ka0 := R1.cell 0 0 rfl rfl
  have ka1 := R1.cell 0 1 rfl rfl
  have ka2 := R1.cell 0 2 rfl rfl
  have ka3 := R1.cell 0 3 rfl rfl
  rcases Nat.eq_zero_or_pos m_t with hm0 | hm0
  · have hy0 : y.natAbs = 0 := h00.1 (List.eq_nil_of_length_eq_zero (hlen.trans hm0))
    obtain rfl : false = z := by rw [← HZ.out]; exact (decide_eq_false (by omega)).symm
    subst hm0
    clear hlen h00
    go_wp2_with fail
    go_ret
    exact ⟨rfl, R1.bel⟩
  · have hy0 : y.natAbs ≠ 0 := fun h => by rw [h, lmb_zero] at hlen; have hlen : 0 = m_t := hlen; omega
    have hz2 : (!b) = z := by rw [← HZ.out, ← HX.out]; cases b <;> simp [zv] <;> omega
    have hm1 : (0 : Int) < (m_t : Int) := by omega
    clear hlen h00
    go_wp2_with fail
    go_ret
    exact ⟨rfl, R1.bel⟩
theorem zv_sign (a : Bool) (m g : Nat) : zv a (m / g) = zv (decide (zv a m < 0)) (m / g) := by
  cases a
  · rw [zv_false, zv_false, decide_eq_false (by omega)]; rfl
  · rw [zv_true]
    rcases Nat.eq_zero_or_pos m with h | h
    · subst h; simp [zv]
    · rw [zv_true, decide_eq_true (by omega)]; rfl
set_option maxRecDepth 100000 in
set_option maxHeartbeats 3200000 in
theorem rqplain {w : World} {a b : Bool} {A B : Option Addr} {n c m d : Nat} {x y : Int} {i j : Nat} {p q : Bool} (ha : ZIs w a A n c x i p) (hb : ZIs w b B m d y j q) {K : Nat} (hi : i ≤ K) (hj : j ≤ K) (hK : K ≤ 16384) (h1 : 1 ≤ K) {r : Rat} (hr : qv x y = r) : Calls Tryz.prog 34 #[.agg #[.bool a, .slice A n c, .bool b, .slice B m d]] w fun e w' => ∃ b3 A3 n3 c3 b4 A4 n4 c4, e = .returned (.agg #[.bool b3, .slice A3 n3 c3, .bool b4, .slice A4 n4 c4]) ∧ ZIs w' b3 A3 n3 c3 (r.num) K true ∧ ZIs w' b4 A4 n4 c4 ((r.den : Nat) : Int) K true ∧ Below w.heap.size w w' := by
  have R0 := ((((Env.nil_ w).add ha).add hb).alloc 26 #[.bool a, .slice A n c, .bool b, .slice B m d] (g := w.heap.size) rfl rfl).alloc 26 #[.bool false, .slice none 0 0, .bool false, .slice none 0 0] (g := w.heap.size + 1) (by simp) rfl
  have HR := Lib.hid hr
  clear hr
  by_cases h0 : 0 < y
  · have hbf : b = false := by
      obtain ⟨_, _, _, hx⟩ := hb.lim
      cases b
      · rfl
      · rw [zv_true] at hx; omega
    subst hbf
    have HR2 : Hid (Rat.divInt x y = r) := Lib.hid (by rw [← HR.out, qv_pos h0])
    obtain ⟨lx, hlx, hvx, hzx⟩ := ha.lim
    obtain ⟨ly, hly, hvy, hzy⟩ := hb.lim
    have fx := ha.few
    have fy := hb.few
    have lx0 := ha.lt
    have ly0 := hb.lt
    obtain ⟨gc, hgc⟩ : ∃ gc, Nat.gcd x.natAbs y.natAbs = gc := ⟨_, rfl⟩
    have hgp : 0 < gc := by rw [← hgc]; exact Nat.gcd_pos_of_pos_right _ (by omega)
    have tg := fun w0 h0 h1 => rGcd_any A n c lx B m d ly w0 h0 h1 (by omega) (by omega)
    rw [hvx, hvy, hgc] at tg
    have td1 := fun C k e w0 h0 h1 hk => rDiv_any A n c lx C k e (lmb gc) w0 h0 h1 (by omega) hk (by rw [vl_lmb]; exact hgp)
    have td2 := fun C k e w0 h0 h1 hk => rDiv_any B m d ly C k e (lmb gc) w0 h0 h1 (by omega) hk (by rw [vl_lmb]; exact hgp)
    rw [hvx, vl_lmb] at td1
    rw [hvy, vl_lmb] at td2
    have q1 := qnum_of (x := x) (y := y) h0
    have q2 := qden_of (x := x) (y := y) h0
    have q3 := qnum_lt (x := x) (y := y) h0 lx0
    have q4 := qden_lt (x := x) (y := y) h0 ly0
    rw [HR2.out] at q1 q2 q3 q4
    have hsg := zv_sign a x.natAbs gc
    rw [hvx] at hzx
    rw [hgc] at q1 q2
    rw [hzx, ← q1] at hsg
    obtain ⟨u, hu⟩ : ∃ u, x.natAbs / gc = u := ⟨_, rfl⟩
    obtain ⟨v, hv⟩ : ∃ v, y.natAbs / gc = v := ⟨_, rfl⟩
    rw [hu] at td1 hsg
    rw [hv] at td2 q2
    have HS := Lib.hid hsg
    have HQ := Lib.hid (And.intro q2 (And.intro q3 q4))
    have hl1 := (hlx.alloc (.cells #[.bool a, .slice A n c, .bool false, .slice B m d] 26)).alloc (.cells #[.bool false, .slice none 0 0, .bool false, .slice none 0 0] 26)
    have hl2 := (hly.alloc (.cells #[.bool a, .slice A n c, .bool false, .slice B m d] 26)).alloc (.cells #[.bool false, .slice none 0 0, .bool false, .slice none 0 0] 26)
    clear hgc hvx hvy hzx hzy q1 q2 q3 q4 hsg lx0 ly0 hu hv
    go_enter Tryz.func34, Tryz.ntmps34
    have k1a0 := R0.cell 1 0 rfl rfl
    have k1a1 := R0.cell 1 1 rfl rfl
    have k1a2 := R0.cell 1 2 rfl rfl
    have k1a3 := R0.cell 1 3 rfl rfl
    go_wp2_with fail
    clear k1a0 k1a1 k1a2 k1a3
    refine (rqmay (R0.z 1 rfl) (R0.z 0 rfl) (by omega) (decide_eq_true h0)).mono ?_; rintro e w1 ⟨rfl, hb1⟩
    have R1 := (R0.below hb1)
    have ka0 := R1.cell 1 0 rfl rfl
    have ka1 := R1.cell 1 1 rfl rfl
    have ka2 := R1.cell 1 2 rfl rfl
    have ka3 := R1.cell 1 3 rfl rfl
    go_wp2_with fail
    clear ka0 ka1 ka2 ka3
    refine (tg _ (hl1.below hb1) (hl2.below hb1)).mono ?_; rintro e w2 ⟨A_g, m_g, c_g, rfl, hm_g, ho_g, hb2⟩
    have R2 := R1.below hb2
    have ka0 := R2.cell 1 0 rfl rfl
    have ka1 := R2.cell 1 1 rfl rfl
    have ka2 := R2.cell 1 2 rfl rfl
    have ka3 := R2.cell 1 3 rfl rfl
    go_wp2_with fail
    clear ka0 ka1 ka2 ka3
    refine (td1 _ _ _ _ ((hl1.below hb1).below hb2) ho_g.ints (by omega)).mono ?_; rintro e w3 ⟨A_u, m_u, c_u, A_u2, m_u2, c_u2, rfl, hm_u, hm_u2, ho_u, ho_u2, hb3⟩
    have R3 := R2.below hb3
    have ka0 := R3.cell 1 0 rfl rfl
    have ka1 := R3.cell 1 1 rfl rfl
    have ka2 := R3.cell 1 2 rfl rfl
    have ka3 := R3.cell 1 3 rfl rfl
    go_wp2_with fail
    clear ka0 ka1 ka2 ka3
    refine (td2 _ _ _ _ (((hl2.below hb1).below hb2).below hb3) (ho_g.below hb3).ints (by omega)).mono ?_; rintro e w4 ⟨A_v, m_v, c_v, A_v2, m_v2, c_v2, rfl, hm_v, hm_v2, ho_v, ho_v2, hb4⟩
    have R4 := R3.below hb4
    have ka0 := R4.cell 1 0 rfl rfl
    have ka1 := R4.cell 1 1 rfl rfl
    have ka2 := R4.cell 1 2 rfl rfl
    have ka3 := R4.cell 1 3 rfl rfl
    go_wp2_with fail
    clear ka0 ka1 ka2 ka3
    have zu := ZIs.of_lim (b := a) (k := 4 * i) (ho_u.below hb4).ints (by omega)
    rw [vl_lmb, HS.out] at zu
    have zw : ZIs w4 false A_v m_v c_v ((r.den : Nat) : Int) (4 * j) true := ZIs.plain (by rw [Int.natAbs_natCast, HQ.out.1]; exact ho_v.ints) (decide_eq_false (by omega)) (by omega)
    have R4b := (R4.add zu).add zw
    refine (rplain_t (K := 4 * i) (R4b.z 1 rfl) (by omega) (Nat.le_refl _)).mono ?_; rintro e w5 ⟨b_p, A_p, n_p, c_p, rfl, z_p, hb5⟩
    have R5 := ((R4b.below hb5).add z_p)
    have zr0 := R5.cell 0 0 rfl rfl
    have zr1 := R5.cell 0 1 rfl rfl
    have zr2 := R5.cell 0 2 rfl rfl
    have zr3 := R5.cell 0 3 rfl rfl
    have zfr0 := R5.frozen 0 0 rfl
    have zfr1 := R5.frozen 0 1 rfl
    have zfr2 := R5.frozen 0 2 rfl
    have zfr3 := R5.frozen 0 3 rfl
    go_wp2_with fail
    have R9_ := R5.st4 0 (.bool b_p) (.slice A_p n_p c_p) (.bool false) (.slice A_v m_v c_v) rfl rfl rfl rfl rfl
    refine bodyPost_ret (results_cell_row rfl _ _ (w.heap.size + 1) 26 #[.bool b_p, .slice A_p n_p c_p, .bool false, .slice A_v m_v c_v] (0, 0) _ rfl (R9_.b 0 rfl).is Tryz.underlying26 rfl (by kernel_rfl)) rfl ?_
    exact ⟨_, _, _, _, _, _, _, _, rfl, ((R9_.z 0 rfl).tight HQ.out.2.1).mono (by omega), ((R9_.z 1 rfl).tight HQ.out.2.2).mono (by omega), R9_.bel⟩
  · have hr0 : r = 0 := by rw [← HR.out, qv_not h0]
    subst hr0
    have H0 := Lib.hid h0
    clear h0
    go_enter Tryz.func34, Tryz.ntmps34
    have k1a0 := R0.cell 1 0 rfl rfl
    have k1a1 := R0.cell 1 1 rfl rfl
    have k1a2 := R0.cell 1 2 rfl rfl
    have k1a3 := R0.cell 1 3 rfl rfl
    go_wp2_with fail
    clear k1a0 k1a1 k1a2 k1a3
    refine (rqmay (R0.z 1 rfl) (R0.z 0 rfl) (by omega) (decide_eq_false (by have := H0.out; omega))).mono ?_; rintro e w1 ⟨rfl, hb1⟩
    have R1 := (R0.below hb1)
    have k2a0 := R1.cell 1 0 rfl rfl
    have k2a1 := R1.cell 1 1 rfl rfl
    have k2a2 := R1.cell 1 2 rfl rfl
    have k2a3 := R1.cell 1 3 rfl rfl
    go_wp2_with fail
    clear k2a0 k2a1 k2a2 k2a3
    refine (rqzero _).mono ?_; rintro e w2 ⟨b_p, A_p, n_p, c_p, b_q, A_q, n_q, c_q, rfl, z_p, z_q, hb2⟩
    have R2 := (((R1.below hb2).add z_p).add z_q)
    have zr0 := R2.cell 0 0 rfl rfl
    have zr1 := R2.cell 0 1 rfl rfl
    have zr2 := R2.cell 0 2 rfl rfl
    have zr3 := R2.cell 0 3 rfl rfl
    have zfr0 := R2.frozen 0 0 rfl
    have zfr1 := R2.frozen 0 1 rfl
    have zfr2 := R2.frozen 0 2 rfl
    have zfr3 := R2.frozen 0 3 rfl
    go_wp2_with fail
    have R9_ := R2.st4 0 (.bool b_p) (.slice A_p n_p c_p) (.bool b_q) (.slice A_q n_q c_q) rfl rfl rfl rfl rfl
    refine bodyPost_ret (results_cell_row rfl _ _ (w.heap.size + 1) 26 #[.bool b_p, .slice A_p n_p c_p, .bool b_q, .slice A_q n_q c_q] (0, 0) _ rfl (R9_.b 0 rfl).is Tryz.underlying26 rfl (by kernel_rfl)) rfl ?_
    exact ⟨_, _, _, _, _, _, _, _, rfl, (R9_.z 1 rfl).mono (by omega), (R9_.z 0 rfl).mono (by omega), R9_.bel⟩
end Go.Proofs.YticjhlbmdjijnaaGreatDoor
