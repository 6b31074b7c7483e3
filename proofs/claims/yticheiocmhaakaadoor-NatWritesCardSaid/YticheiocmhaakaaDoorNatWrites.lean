/- NatWrites: every number's text and bytes, and the number of any text, and any bytes, are what the document says; what is written is read. No condition. -/
import Derived.Test.YticheiocmhaakaaDoorNatR
namespace Go.Proofs.YticheiocmhaakaaDoor
open Go.RowKit

set_option maxRecDepth 100000 in
set_option maxHeartbeats 6400000 in
theorem natWrites_any (A0 : Option Addr) (n0 c0 : Nat) (l0 : List Nat) (x1 : ByteArray) (A2 : Option Addr) (n2 c2 : Nat) (l2 : List Nat) (w : World) (hr_0 : Lim w A0 n0 c0 l0) (hn0 : n0 ≤ maxLen) (hx1 : x1.size ≤ maxLen) (hr_2 : Byt w A2 n2 c2 l2) (hn2 : n2 ≤ maxLen) :
    Calls Tryd.prog 11 #[.slice A0 n0 c0, .string x1, .slice A2 n2 c2] w fun e w' => e = .returned (.bool true) ∧ Below w.heap.size w w' := by
  unfold maxLen at hn0 hx1 hn2
  obtain ⟨z, hz⟩ : ∃ z, x1.size = z := ⟨_, rfl⟩
  by_cases h0 : 20 < n0
  · go_enter Tryd.func11, Tryd.ntmps11
    go_wp2_with fail
    refine (awake_any _).mono ?_; rintro e w1 ⟨rfl, b1⟩
    go_wp2_with fail
    go_ret
    exact ⟨rfl, b1⟩
  by_cases h1 : 300 < z
  · go_enter Tryd.func11, Tryd.ntmps11
    go_wp2_with fail
    refine (awake_any _).mono ?_; rintro e w1 ⟨rfl, b1⟩
    go_wp2_with fail
    go_ret
    exact ⟨rfl, b1⟩
  by_cases h2 : 17000 < n2
  · go_enter Tryd.func11, Tryd.ntmps11
    go_wp2_with fail
    refine (awake_any _).mono ?_; rintro e w1 ⟨rfl, b1⟩
    go_wp2_with fail
    go_ret
    exact ⟨rfl, b1⟩
  have hvl : vl l0 < 10 ^ (199 + 1) := by
    have h1 : vl l0 < 4294967296 ^ l0.length := Num.val_lt _ l0 hr_0.lt
    have h2 : 4294967296 ^ l0.length ≤ 4294967296 ^ 20 := Nat.pow_le_pow_right (by decide) (by rw [hr_0.len]; omega)
    have h3 : (4294967296 : Nat) ^ 20 < 10 ^ (199 + 1) := by decide
    omega
  have hrd : Reads (decTxt (vl l0)) := reads_dec _ 199 hvl (by omega)
  have hll : (lmb (vl l0)).length ≤ 4096 := by
    have h1 := lmb_len l0 hr_0.lt
    have h2 := hr_0.len
    omega
  have htx := fun w0 h0 => text_any A0 n0 c0 l0 w0 h0 (by omega)
  have hrtx := fun w0 h0 => rtext_any A0 n0 c0 l0 w0 h0 (by omega)
  have hback := fun w0 => parse_ok (decTxt (vl l0)) (digs_lt hrd.digs) w0 hrd
  rw [(dec_decTxt (vl l0)).1] at hback
  obtain ⟨S, hS⟩ : ∃ S, str (decTxt (vl l0)) = S := ⟨_, rfl⟩
  simp only [hS] at htx hrtx hback
  have hsl : (bl x1).length ≤ 300 := by
    have : (bl x1).length = x1.size := by unfold bl; rw [List.length_map]; rfl
    omega
  obtain ⟨s, hs⟩ : ∃ s, bl x1 = s := ⟨_, rfl⟩
  have hxs := str_bl x1
  have hsb := bl_lt x1
  rw [hs] at hxs hsb hsl
  have hpo := fun h w0 => parse_ok s hsb w0 h
  have hro := fun h w0 => rparse_ok s hsb w0 h
  have hpb := fun h w0 => parse_bad s hsb w0 (by omega) h
  have hrb := fun h w0 => rparse_bad s hsb w0 h
  rw [hxs] at hpo hro hpb hrb
  clear hS hxs hs hvl hrd
  go_enter Tryd.func11, Tryd.ntmps11
  have B0 := Below.refl w.heap.size w
  go_wp2_with fail
  refine (awake_any _).mono ?_
  rintro e w1 ⟨rfl, b1⟩
  have B1 := below_step B0 b1 B0.size
  go_wp2_with fail
  refine (htx _ (hr_0.below B1)).mono ?_
  rintro e w2 ⟨rfl, b2⟩
  have B2 := below_step B1 b2 B1.size
  by_cases hp : Reads s
  · go_wp2_with fail
    refine (hpo hp _).mono ?_
    rintro e w3 ⟨A_p, m_p, rfl, hm_p, o_p, b3⟩
    have B3 := below_step B2 b3 B2.size
    go_wp2_with fail
    refine (hro hp _).mono ?_
    rintro e w4 ⟨A_pp, m_pp, c_pp, rfl, hm_pp, o_pp, b4⟩
    replace o_p := o_p.below b4
    have B4 := below_step B3 b4 B3.size
    go_wp2_with fail
    refine (bytes_any _ _ _ _ _ (hr_0.below B4) (by omega)).mono ?_
    rintro e w5 ⟨A_b, m_b, c_b, rfl, hm_b, o_b, b5⟩
    replace o_p := o_p.below b5
    replace o_pp := o_pp.below b5
    have B5 := below_step B4 b5 B4.size
    by_cases hq : ReadOk l2
    · have hfew := hq.few
      go_wp2_with fail
      refine (read_ok _ _ _ _ _ (hr_2.below B5) (by omega) hq).mono ?_
      rintro e w6 ⟨A_n, A_e, m_e, c_e, rfl, hm_e, o_n, o_e, b6⟩
      replace o_p := o_p.below b6
      replace o_pp := o_pp.below b6
      replace o_b := o_b.below b6
      have B6 := below_step B5 b6 B5.size
      go_wp2_with fail
      refine (rread_ok _ _ _ _ _ (hr_2.below B6) (by omega) hq).mono ?_
      rintro e w7 ⟨A_m, c_m, A_f, m_f, c_f, rfl, hm_f, o_m, o_f, b7⟩
      replace o_p := o_p.below b7
      replace o_pp := o_pp.below b7
      replace o_b := o_b.below b7
      replace o_n := o_n.below b7
      replace o_e := o_e.below b7
      have B7 := below_step B6 b7 B6.size
      go_wp2_with fail
      refine (hrtx _ (hr_0.below B7)).mono ?_
      rintro e w8 ⟨rfl, b8⟩
      replace o_p := o_p.below b8
      replace o_pp := o_pp.below b8
      replace o_b := o_b.below b8
      replace o_n := o_n.below b8
      replace o_e := o_e.below b8
      replace o_m := o_m.below b8
      replace o_f := o_f.below b8
      have B8 := below_step B7 b8 B7.size
      go_wp2_with fail
      refine (same_true _ _ _ _ _ _ _ _ _ o_p.ints o_pp.ints (by omega) (by omega) rfl).mono ?_
      rintro e w9 ⟨rfl, b9⟩
      replace o_p := o_p.below b9
      replace o_pp := o_pp.below b9
      replace o_b := o_b.below b9
      replace o_n := o_n.below b9
      replace o_e := o_e.below b9
      replace o_m := o_m.below b9
      replace o_f := o_f.below b9
      have B9 := below_step B8 b9 B8.size
      go_wp2_with fail
      refine (rbytes_any _ _ _ _ _ (hr_0.below B9) (by omega)).mono ?_
      rintro e w10 ⟨A_g, m_g, c_g, rfl, o_g, b10⟩
      replace o_p := o_p.below b10
      replace o_pp := o_pp.below b10
      replace o_b := o_b.below b10
      replace o_n := o_n.below b10
      replace o_e := o_e.below b10
      replace o_m := o_m.below b10
      replace o_f := o_f.below b10
      have B10 := below_step B9 b10 B9.size
      go_wp2_with fail
      refine (rows_true _ _ _ _ _ _ _ _ _ o_b.ints o_g.ints (by omega) (by have h1 := o_g.len; have h2 := o_b.len; omega) rfl).mono ?_
      rintro e w11 ⟨rfl, b11⟩
      replace o_p := o_p.below b11
      replace o_pp := o_pp.below b11
      replace o_b := o_b.below b11
      replace o_n := o_n.below b11
      replace o_e := o_e.below b11
      replace o_m := o_m.below b11
      replace o_f := o_f.below b11
      replace o_g := o_g.below b11
      have B11 := below_step B10 b11 B10.size
      go_wp2_with fail
      refine (same_true _ _ _ _ _ _ _ _ _ o_n.ints o_m.ints (by omega) (by omega) rfl).mono ?_
      rintro e w12 ⟨rfl, b12⟩
      replace o_p := o_p.below b12
      replace o_pp := o_pp.below b12
      replace o_b := o_b.below b12
      replace o_n := o_n.below b12
      replace o_e := o_e.below b12
      replace o_m := o_m.below b12
      replace o_f := o_f.below b12
      replace o_g := o_g.below b12
      have B12 := below_step B11 b12 B11.size
      go_wp2_with fail
      refine (rows_true _ _ _ _ _ _ _ _ _ o_e.ints o_f.ints (by omega) (by omega) rfl).mono ?_
      rintro e w13 ⟨rfl, b13⟩
      replace o_p := o_p.below b13
      replace o_pp := o_pp.below b13
      replace o_b := o_b.below b13
      replace o_n := o_n.below b13
      replace o_e := o_e.below b13
      replace o_m := o_m.below b13
      replace o_f := o_f.below b13
      replace o_g := o_g.below b13
      have B13 := below_step B12 b13 B12.size
      go_wp2_with fail
      refine (hback _).mono ?_
      rintro e w14 ⟨A_k, m_k, rfl, hm_k, o_k, b14⟩
      replace o_p := o_p.below b14
      replace o_pp := o_pp.below b14
      replace o_b := o_b.below b14
      replace o_n := o_n.below b14
      replace o_e := o_e.below b14
      replace o_m := o_m.below b14
      replace o_f := o_f.below b14
      replace o_g := o_g.below b14
      have B14 := below_step B13 b14 B13.size
      go_wp2_with fail
      refine (read_enc _ _ _ _ _ o_b.ints hll).mono ?_
      rintro e w15 ⟨A_a, m_a, A_z, c_z, rfl, hm_a, o_a, b15⟩
      replace o_p := o_p.below b15
      replace o_pp := o_pp.below b15
      replace o_b := o_b.below b15
      replace o_n := o_n.below b15
      replace o_e := o_e.below b15
      replace o_m := o_m.below b15
      replace o_f := o_f.below b15
      replace o_g := o_g.below b15
      replace o_k := o_k.below b15
      have B15 := below_step B14 b15 B14.size
      go_wp2_with fail
      refine (rtrim_any _ _ _ _ _ (hr_0.below B15) (by omega)).mono ?_
      rintro e w16 ⟨A_t, m_t, c_t, rfl, hm_t, o_t, b16⟩
      replace o_p := o_p.below b16
      replace o_pp := o_pp.below b16
      replace o_b := o_b.below b16
      replace o_n := o_n.below b16
      replace o_e := o_e.below b16
      replace o_m := o_m.below b16
      replace o_f := o_f.below b16
      replace o_g := o_g.below b16
      replace o_k := o_k.below b16
      replace o_a := o_a.below b16
      have B16 := below_step B15 b16 B15.size
      go_wp2_with fail
      refine (same_true _ _ _ _ _ _ _ _ _ o_k.ints o_t.ints (by omega) (by omega) rfl).mono ?_
      rintro e w17 ⟨rfl, b17⟩
      replace o_p := o_p.below b17
      replace o_pp := o_pp.below b17
      replace o_b := o_b.below b17
      replace o_n := o_n.below b17
      replace o_e := o_e.below b17
      replace o_m := o_m.below b17
      replace o_f := o_f.below b17
      replace o_g := o_g.below b17
      replace o_k := o_k.below b17
      replace o_a := o_a.below b17
      replace o_t := o_t.below b17
      have B17 := below_step B16 b17 B16.size
      go_wp2_with fail
      refine (same_true _ _ _ _ _ _ _ _ _ o_a.ints o_k.ints (by omega) (by omega) rfl).mono ?_
      rintro e w18 ⟨rfl, b18⟩
      replace o_p := o_p.below b18
      replace o_pp := o_pp.below b18
      replace o_b := o_b.below b18
      replace o_n := o_n.below b18
      replace o_e := o_e.below b18
      replace o_m := o_m.below b18
      replace o_f := o_f.below b18
      replace o_g := o_g.below b18
      replace o_k := o_k.below b18
      replace o_a := o_a.below b18
      replace o_t := o_t.below b18
      have B18 := below_step B17 b18 B17.size
      go_wp2_with fail
      go_ret
      exact ⟨rfl, B18⟩
    · go_wp2_with fail
      refine (read_bad _ _ _ _ _ (hr_2.below B5) (by omega) hq).mono ?_
      rintro e w6 ⟨rfl, b6⟩
      replace o_p := o_p.below b6
      replace o_pp := o_pp.below b6
      replace o_b := o_b.below b6
      have B6 := below_step B5 b6 B5.size
      go_wp2_with fail
      refine (rread_bad _ _ _ _ _ (hr_2.below B6) (by omega) hq).mono ?_
      rintro e w7 ⟨rfl, b7⟩
      replace o_p := o_p.below b7
      replace o_pp := o_pp.below b7
      replace o_b := o_b.below b7
      have B7 := below_step B6 b7 B6.size
      go_wp2_with fail
      refine (hrtx _ (hr_0.below B7)).mono ?_
      rintro e w8 ⟨rfl, b8⟩
      replace o_p := o_p.below b8
      replace o_pp := o_pp.below b8
      replace o_b := o_b.below b8
      have B8 := below_step B7 b8 B7.size
      go_wp2_with fail
      refine (same_true _ _ _ _ _ _ _ _ _ o_p.ints o_pp.ints (by omega) (by omega) rfl).mono ?_
      rintro e w9 ⟨rfl, b9⟩
      replace o_p := o_p.below b9
      replace o_pp := o_pp.below b9
      replace o_b := o_b.below b9
      have B9 := below_step B8 b9 B8.size
      go_wp2_with fail
      refine (rbytes_any _ _ _ _ _ (hr_0.below B9) (by omega)).mono ?_
      rintro e w10 ⟨A_g, m_g, c_g, rfl, o_g, b10⟩
      replace o_p := o_p.below b10
      replace o_pp := o_pp.below b10
      replace o_b := o_b.below b10
      have B10 := below_step B9 b10 B9.size
      go_wp2_with fail
      refine (rows_true _ _ _ _ _ _ _ _ _ o_b.ints o_g.ints (by omega) (by have h1 := o_g.len; have h2 := o_b.len; omega) rfl).mono ?_
      rintro e w11 ⟨rfl, b11⟩
      replace o_p := o_p.below b11
      replace o_pp := o_pp.below b11
      replace o_b := o_b.below b11
      replace o_g := o_g.below b11
      have B11 := below_step B10 b11 B10.size
      go_wp2_with fail
      refine (same_true _ _ _ _ _ _ _ _ _ (Ints.nil_ _ _ _ _ _) (Ints.nil_ _ _ _ _ _) (by omega) (by omega) rfl).mono ?_
      rintro e w12 ⟨rfl, b12⟩
      replace o_p := o_p.below b12
      replace o_pp := o_pp.below b12
      replace o_b := o_b.below b12
      replace o_g := o_g.below b12
      have B12 := below_step B11 b12 B11.size
      go_wp2_with fail
      refine (rows_true _ _ _ _ _ _ _ _ _ (Ints.nil_ _ _ _ _ _) (Ints.nil_ _ _ _ _ _) (by omega) (by omega) rfl).mono ?_
      rintro e w13 ⟨rfl, b13⟩
      replace o_p := o_p.below b13
      replace o_pp := o_pp.below b13
      replace o_b := o_b.below b13
      replace o_g := o_g.below b13
      have B13 := below_step B12 b13 B12.size
      go_wp2_with fail
      refine (hback _).mono ?_
      rintro e w14 ⟨A_k, m_k, rfl, hm_k, o_k, b14⟩
      replace o_p := o_p.below b14
      replace o_pp := o_pp.below b14
      replace o_b := o_b.below b14
      replace o_g := o_g.below b14
      have B14 := below_step B13 b14 B13.size
      go_wp2_with fail
      refine (read_enc _ _ _ _ _ o_b.ints hll).mono ?_
      rintro e w15 ⟨A_a, m_a, A_z, c_z, rfl, hm_a, o_a, b15⟩
      replace o_p := o_p.below b15
      replace o_pp := o_pp.below b15
      replace o_b := o_b.below b15
      replace o_g := o_g.below b15
      replace o_k := o_k.below b15
      have B15 := below_step B14 b15 B14.size
      go_wp2_with fail
      refine (rtrim_any _ _ _ _ _ (hr_0.below B15) (by omega)).mono ?_
      rintro e w16 ⟨A_t, m_t, c_t, rfl, hm_t, o_t, b16⟩
      replace o_p := o_p.below b16
      replace o_pp := o_pp.below b16
      replace o_b := o_b.below b16
      replace o_g := o_g.below b16
      replace o_k := o_k.below b16
      replace o_a := o_a.below b16
      have B16 := below_step B15 b16 B15.size
      go_wp2_with fail
      refine (same_true _ _ _ _ _ _ _ _ _ o_k.ints o_t.ints (by omega) (by omega) rfl).mono ?_
      rintro e w17 ⟨rfl, b17⟩
      replace o_p := o_p.below b17
      replace o_pp := o_pp.below b17
      replace o_b := o_b.below b17
      replace o_g := o_g.below b17
      replace o_k := o_k.below b17
      replace o_a := o_a.below b17
      replace o_t := o_t.below b17
      have B17 := below_step B16 b17 B16.size
      go_wp2_with fail
      refine (same_true _ _ _ _ _ _ _ _ _ o_a.ints o_k.ints (by omega) (by omega) rfl).mono ?_
      rintro e w18 ⟨rfl, b18⟩
      replace o_p := o_p.below b18
      replace o_pp := o_pp.below b18
      replace o_b := o_b.below b18
      replace o_g := o_g.below b18
      replace o_k := o_k.below b18
      replace o_a := o_a.below b18
      replace o_t := o_t.below b18
      have B18 := below_step B17 b18 B17.size
      go_wp2_with fail
      go_ret
      exact ⟨rfl, B18⟩
  · go_wp2_with fail
    refine (hpb hp _).mono ?_
    rintro e w3 ⟨rfl, b3⟩
    have B3 := below_step B2 b3 B2.size
    go_wp2_with fail
    refine (hrb hp _).mono ?_
    rintro e w4 ⟨rfl, b4⟩
    have B4 := below_step B3 b4 B3.size
    go_wp2_with fail
    refine (bytes_any _ _ _ _ _ (hr_0.below B4) (by omega)).mono ?_
    rintro e w5 ⟨A_b, m_b, c_b, rfl, hm_b, o_b, b5⟩
    have B5 := below_step B4 b5 B4.size
    by_cases hq : ReadOk l2
    · have hfew := hq.few
      go_wp2_with fail
      refine (read_ok _ _ _ _ _ (hr_2.below B5) (by omega) hq).mono ?_
      rintro e w6 ⟨A_n, A_e, m_e, c_e, rfl, hm_e, o_n, o_e, b6⟩
      replace o_b := o_b.below b6
      have B6 := below_step B5 b6 B5.size
      go_wp2_with fail
      refine (rread_ok _ _ _ _ _ (hr_2.below B6) (by omega) hq).mono ?_
      rintro e w7 ⟨A_m, c_m, A_f, m_f, c_f, rfl, hm_f, o_m, o_f, b7⟩
      replace o_b := o_b.below b7
      replace o_n := o_n.below b7
      replace o_e := o_e.below b7
      have B7 := below_step B6 b7 B6.size
      go_wp2_with fail
      refine (hrtx _ (hr_0.below B7)).mono ?_
      rintro e w8 ⟨rfl, b8⟩
      replace o_b := o_b.below b8
      replace o_n := o_n.below b8
      replace o_e := o_e.below b8
      replace o_m := o_m.below b8
      replace o_f := o_f.below b8
      have B8 := below_step B7 b8 B7.size
      go_wp2_with fail
      refine (same_true _ _ _ _ _ _ _ _ _ (Ints.nil_ _ _ _ _ _) (Ints.nil_ _ _ _ _ _) (by omega) (by omega) rfl).mono ?_
      rintro e w9 ⟨rfl, b9⟩
      replace o_b := o_b.below b9
      replace o_n := o_n.below b9
      replace o_e := o_e.below b9
      replace o_m := o_m.below b9
      replace o_f := o_f.below b9
      have B9 := below_step B8 b9 B8.size
      go_wp2_with fail
      refine (rbytes_any _ _ _ _ _ (hr_0.below B9) (by omega)).mono ?_
      rintro e w10 ⟨A_g, m_g, c_g, rfl, o_g, b10⟩
      replace o_b := o_b.below b10
      replace o_n := o_n.below b10
      replace o_e := o_e.below b10
      replace o_m := o_m.below b10
      replace o_f := o_f.below b10
      have B10 := below_step B9 b10 B9.size
      go_wp2_with fail
      refine (rows_true _ _ _ _ _ _ _ _ _ o_b.ints o_g.ints (by omega) (by have h1 := o_g.len; have h2 := o_b.len; omega) rfl).mono ?_
      rintro e w11 ⟨rfl, b11⟩
      replace o_b := o_b.below b11
      replace o_n := o_n.below b11
      replace o_e := o_e.below b11
      replace o_m := o_m.below b11
      replace o_f := o_f.below b11
      replace o_g := o_g.below b11
      have B11 := below_step B10 b11 B10.size
      go_wp2_with fail
      refine (same_true _ _ _ _ _ _ _ _ _ o_n.ints o_m.ints (by omega) (by omega) rfl).mono ?_
      rintro e w12 ⟨rfl, b12⟩
      replace o_b := o_b.below b12
      replace o_n := o_n.below b12
      replace o_e := o_e.below b12
      replace o_m := o_m.below b12
      replace o_f := o_f.below b12
      replace o_g := o_g.below b12
      have B12 := below_step B11 b12 B11.size
      go_wp2_with fail
      refine (rows_true _ _ _ _ _ _ _ _ _ o_e.ints o_f.ints (by omega) (by omega) rfl).mono ?_
      rintro e w13 ⟨rfl, b13⟩
      replace o_b := o_b.below b13
      replace o_n := o_n.below b13
      replace o_e := o_e.below b13
      replace o_m := o_m.below b13
      replace o_f := o_f.below b13
      replace o_g := o_g.below b13
      have B13 := below_step B12 b13 B12.size
      go_wp2_with fail
      refine (hback _).mono ?_
      rintro e w14 ⟨A_k, m_k, rfl, hm_k, o_k, b14⟩
      replace o_b := o_b.below b14
      replace o_n := o_n.below b14
      replace o_e := o_e.below b14
      replace o_m := o_m.below b14
      replace o_f := o_f.below b14
      replace o_g := o_g.below b14
      have B14 := below_step B13 b14 B13.size
      go_wp2_with fail
      refine (read_enc _ _ _ _ _ o_b.ints hll).mono ?_
      rintro e w15 ⟨A_a, m_a, A_z, c_z, rfl, hm_a, o_a, b15⟩
      replace o_b := o_b.below b15
      replace o_n := o_n.below b15
      replace o_e := o_e.below b15
      replace o_m := o_m.below b15
      replace o_f := o_f.below b15
      replace o_g := o_g.below b15
      replace o_k := o_k.below b15
      have B15 := below_step B14 b15 B14.size
      go_wp2_with fail
      refine (rtrim_any _ _ _ _ _ (hr_0.below B15) (by omega)).mono ?_
      rintro e w16 ⟨A_t, m_t, c_t, rfl, hm_t, o_t, b16⟩
      replace o_b := o_b.below b16
      replace o_n := o_n.below b16
      replace o_e := o_e.below b16
      replace o_m := o_m.below b16
      replace o_f := o_f.below b16
      replace o_g := o_g.below b16
      replace o_k := o_k.below b16
      replace o_a := o_a.below b16
      have B16 := below_step B15 b16 B15.size
      go_wp2_with fail
      refine (same_true _ _ _ _ _ _ _ _ _ o_k.ints o_t.ints (by omega) (by omega) rfl).mono ?_
      rintro e w17 ⟨rfl, b17⟩
      replace o_b := o_b.below b17
      replace o_n := o_n.below b17
      replace o_e := o_e.below b17
      replace o_m := o_m.below b17
      replace o_f := o_f.below b17
      replace o_g := o_g.below b17
      replace o_k := o_k.below b17
      replace o_a := o_a.below b17
      replace o_t := o_t.below b17
      have B17 := below_step B16 b17 B16.size
      go_wp2_with fail
      refine (same_true _ _ _ _ _ _ _ _ _ o_a.ints o_k.ints (by omega) (by omega) rfl).mono ?_
      rintro e w18 ⟨rfl, b18⟩
      replace o_b := o_b.below b18
      replace o_n := o_n.below b18
      replace o_e := o_e.below b18
      replace o_m := o_m.below b18
      replace o_f := o_f.below b18
      replace o_g := o_g.below b18
      replace o_k := o_k.below b18
      replace o_a := o_a.below b18
      replace o_t := o_t.below b18
      have B18 := below_step B17 b18 B17.size
      go_wp2_with fail
      go_ret
      exact ⟨rfl, B18⟩
    · go_wp2_with fail
      refine (read_bad _ _ _ _ _ (hr_2.below B5) (by omega) hq).mono ?_
      rintro e w6 ⟨rfl, b6⟩
      replace o_b := o_b.below b6
      have B6 := below_step B5 b6 B5.size
      go_wp2_with fail
      refine (rread_bad _ _ _ _ _ (hr_2.below B6) (by omega) hq).mono ?_
      rintro e w7 ⟨rfl, b7⟩
      replace o_b := o_b.below b7
      have B7 := below_step B6 b7 B6.size
      go_wp2_with fail
      refine (hrtx _ (hr_0.below B7)).mono ?_
      rintro e w8 ⟨rfl, b8⟩
      replace o_b := o_b.below b8
      have B8 := below_step B7 b8 B7.size
      go_wp2_with fail
      refine (same_true _ _ _ _ _ _ _ _ _ (Ints.nil_ _ _ _ _ _) (Ints.nil_ _ _ _ _ _) (by omega) (by omega) rfl).mono ?_
      rintro e w9 ⟨rfl, b9⟩
      replace o_b := o_b.below b9
      have B9 := below_step B8 b9 B8.size
      go_wp2_with fail
      refine (rbytes_any _ _ _ _ _ (hr_0.below B9) (by omega)).mono ?_
      rintro e w10 ⟨A_g, m_g, c_g, rfl, o_g, b10⟩
      replace o_b := o_b.below b10
      have B10 := below_step B9 b10 B9.size
      go_wp2_with fail
      refine (rows_true _ _ _ _ _ _ _ _ _ o_b.ints o_g.ints (by omega) (by have h1 := o_g.len; have h2 := o_b.len; omega) rfl).mono ?_
      rintro e w11 ⟨rfl, b11⟩
      replace o_b := o_b.below b11
      replace o_g := o_g.below b11
      have B11 := below_step B10 b11 B10.size
      go_wp2_with fail
      refine (same_true _ _ _ _ _ _ _ _ _ (Ints.nil_ _ _ _ _ _) (Ints.nil_ _ _ _ _ _) (by omega) (by omega) rfl).mono ?_
      rintro e w12 ⟨rfl, b12⟩
      replace o_b := o_b.below b12
      replace o_g := o_g.below b12
      have B12 := below_step B11 b12 B11.size
      go_wp2_with fail
      refine (rows_true _ _ _ _ _ _ _ _ _ (Ints.nil_ _ _ _ _ _) (Ints.nil_ _ _ _ _ _) (by omega) (by omega) rfl).mono ?_
      rintro e w13 ⟨rfl, b13⟩
      replace o_b := o_b.below b13
      replace o_g := o_g.below b13
      have B13 := below_step B12 b13 B12.size
      go_wp2_with fail
      refine (hback _).mono ?_
      rintro e w14 ⟨A_k, m_k, rfl, hm_k, o_k, b14⟩
      replace o_b := o_b.below b14
      replace o_g := o_g.below b14
      have B14 := below_step B13 b14 B13.size
      go_wp2_with fail
      refine (read_enc _ _ _ _ _ o_b.ints hll).mono ?_
      rintro e w15 ⟨A_a, m_a, A_z, c_z, rfl, hm_a, o_a, b15⟩
      replace o_b := o_b.below b15
      replace o_g := o_g.below b15
      replace o_k := o_k.below b15
      have B15 := below_step B14 b15 B14.size
      go_wp2_with fail
      refine (rtrim_any _ _ _ _ _ (hr_0.below B15) (by omega)).mono ?_
      rintro e w16 ⟨A_t, m_t, c_t, rfl, hm_t, o_t, b16⟩
      replace o_b := o_b.below b16
      replace o_g := o_g.below b16
      replace o_k := o_k.below b16
      replace o_a := o_a.below b16
      have B16 := below_step B15 b16 B15.size
      go_wp2_with fail
      refine (same_true _ _ _ _ _ _ _ _ _ o_k.ints o_t.ints (by omega) (by omega) rfl).mono ?_
      rintro e w17 ⟨rfl, b17⟩
      replace o_b := o_b.below b17
      replace o_g := o_g.below b17
      replace o_k := o_k.below b17
      replace o_a := o_a.below b17
      replace o_t := o_t.below b17
      have B17 := below_step B16 b17 B16.size
      go_wp2_with fail
      refine (same_true _ _ _ _ _ _ _ _ _ o_a.ints o_k.ints (by omega) (by omega) rfl).mono ?_
      rintro e w18 ⟨rfl, b18⟩
      replace o_b := o_b.below b18
      replace o_g := o_g.below b18
      replace o_k := o_k.below b18
      replace o_a := o_a.below b18
      replace o_t := o_t.below b18
      have B18 := below_step B17 b18 B17.size
      go_wp2_with fail
      go_ret
      exact ⟨rfl, B18⟩
end Go.Proofs.YticheiocmhaakaaDoor
