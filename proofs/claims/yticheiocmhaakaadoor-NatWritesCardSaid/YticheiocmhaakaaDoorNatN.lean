/- Whether rows are alike (heijunkaref01.Same, Rows); what a law of layer 1 asks first. No condition but the reach of a slice. -/
import Derived.Test.YticheiocmhaakaaDoorNatM
import Derived.Test.YticheiocmhaakaaDoorNatE
namespace Go.Proofs.YticheiocmhaakaaDoor
open Go.RowKit

set_option maxRecDepth 100000 in
set_option maxHeartbeats 400000 in
theorem same_any (A B : Option Addr) (n c m d : Nat) (l k : List Nat) (w : World) (ha : Ints w .u32 4294967296 A n c l) (hb : Ints w .u32 4294967296 B m d k) (hn : n ≤ 140737488355328) (hm : m ≤ 140737488355328) :
    Calls Tryd.prog 15 #[.slice A n c, .slice B m d] w fun e w' => (∃ q, w' = w.drewN q) ∧ e = .returned (.bool (decide (l = k))) := by
  by_cases hnm : n = m
  · subst hnm
    go_enter Tryd.func15, Tryd.ntmps15
    go_wp2_with fail
    go_loopw [5] (fun i wr => ∃ j : Nat, j ≤ n ∧ i = .int .i64 j ∧ (∃ q, wr = w.drewN q) ∧ l.take j = k.take j) (fun i _ => n - (intOf i).toNat)
    case atStart => exact ⟨0, by omega, rfl, ⟨0, rfl⟩, rfl⟩
    case round =>
      obtain ⟨j, hj, rfl, ⟨q, rfl⟩, heq⟩ := hrel
      by_cases hlt : j < n
      · obtain ⟨b, o, x, rfl, _, hx, hxl, hc⟩ := ha.get hlt
        obtain ⟨b', o', y, rfl, _, hy, hyl, hcy⟩ := hb.get hlt
        have hcx' : (w.drewN q).cell? ⟨b, o + j, none⟩ = some (.int .u32 (x : Int)) := hc
        have hcy' : (w.drewN q).cell? ⟨b', o' + j, none⟩ = some (.int .u32 (y : Int)) := hcy
        have HE := Lib.hid heq
        have HX := Lib.hid hx
        have HY := Lib.hid hy
        clear heq hx hy
        by_cases hxy : x = y
        · have ht : ((x : Int) != (y : Int)) = false := by simp [hxy]
          have HXY := Lib.hid hxy
          clear hxy
          go_wp2_with (go_quiet (fail))
          exact ⟨⟨j + 1, by omega, by go_num, ⟨_, rfl⟩, by rw [List.take_add_one, List.take_add_one, HE.out, HX.out, HY.out, HXY.out]⟩, by simp [intOf]; omega⟩
        · have ht : ((x : Int) != (y : Int)) = true := by simp; omega
          have hne : l ≠ k := by
            rintro rfl
            have := HX.out.symm.trans HY.out
            exact hxy (Option.some.inj this)
          go_wp2_with (go_quiet (fail))
          go_ret
          exact ⟨⟨_, World.drewN_drewN ..⟩, ret_bool (decide_eq_false hne).symm⟩
      · obtain rfl : j = n := by omega
        have he : l = k := by
          rw [List.take_of_length_le (by rw [ha.len]; omega), List.take_of_length_le (by rw [hb.len]; omega)] at heq
          exact heq
        have HE := Lib.hid he
        clear heq he
        go_wp2_with fail
        go_ret
        exact ⟨⟨_, rfl⟩, ret_bool (decide_eq_true HE.out).symm⟩
  · have hne : l ≠ k := by
      rintro rfl
      exact hnm (ha.len.symm.trans hb.len)
    have ht : ((n : Int) != (m : Int)) = true := by simp; omega
    go_enter Tryd.func15, Tryd.ntmps15
    go_wp2_with fail
    go_ret
    exact ⟨⟨0, rfl⟩, ret_bool (decide_eq_false hne).symm⟩

theorem same_true (A B : Option Addr) (n c m d : Nat) (l k : List Nat) (w : World) (ha : Lim w A n c l) (hb : Lim w B m d k) (hn : n ≤ 140737488355328) (hm : m ≤ 140737488355328) (he : l = k) :
    Calls Tryd.prog 15 #[.slice A n c, .slice B m d] w fun e w' => e = .returned (.bool true) ∧ Below w.heap.size w w' :=
  (same_any A B n c m d l k w ha hb hn hm).mono fun e w' ⟨⟨q, h1⟩, h2⟩ => ⟨by rw [h2, decide_eq_true he], by rw [h1]; exact below_drewN (Below.refl _ _) q⟩
theorem same_below (A B : Option Addr) (n c m d : Nat) (l k : List Nat) (w : World) (ha : Lim w A n c l) (hb : Lim w B m d k) (hn : n ≤ 140737488355328) (hm : m ≤ 140737488355328) :
    Calls Tryd.prog 15 #[.slice A n c, .slice B m d] w fun e w' => e = .returned (.bool (decide (l = k))) ∧ Below w.heap.size w w' :=
  (same_any A B n c m d l k w ha hb hn hm).mono fun e w' ⟨⟨q, h1⟩, h2⟩ => ⟨h2, by rw [h1]; exact below_drewN (Below.refl _ _) q⟩
theorem lmb_lit (L : List Nat) (h : (L.all fun x => decide (x < 4294967296)) = true) (ht : (match L.getLast? with | none => true | some x => decide (x ≠ 0)) = true) : lmb (vl L) = L := by
  refine Num.dig_val (by decide) L (fun x hx => of_decide_eq_true (List.all_eq_true.1 h x hx)) ?_
  intro x hx
  rw [List.getLast?_eq_getElem?, hx] at ht
  exact of_decide_eq_true ht
theorem lmb_six : lmb 6 = [6] := lmb_lit [6] (by decide) (by decide)
theorem lmb_top : lmb 4294967295 = [4294967295] := lmb_lit [4294967295] (by decide) (by decide)
theorem lmb_unit : lmb 4294967296 = [0, 1] := lmb_lit [0, 1] (by decide) (by decide)
theorem text_probe : str (decTxt 1844674407370955161) = ⟨#[49, 56, 52, 52, 54, 55, 52, 52, 48, 55, 51, 55, 48, 57, 53, 53, 49, 54, 49]⟩ := by
  rw [decTxt_pos (by decide), show Num.dig 10 1844674407370955161 = [1, 6, 1, 5, 5, 9, 0, 7, 3, 7, 0, 4, 4, 7, 6, 4, 4, 8, 1] from
    Num.dig_val (b := 10) (by decide) [1, 6, 1, 5, 5, 9, 0, 7, 3, 7, 0, 4, 4, 7, 6, 4, 4, 8, 1] (by decide) (by intro x hx; cases hx; decide)]
  rfl
theorem reads_probe : Reads [52, 50, 57, 52, 57, 54, 55, 50, 57, 54] := ⟨by decide, by decide, by simp, by unfold Digs; decide⟩

set_option maxRecDepth 100000 in
set_option maxHeartbeats 1600000 in
theorem awake_any (w : World) : Calls Tryd.prog 12 #[] w fun e w' => e = .returned (.bool true) ∧ Below w.heap.size w w' := by
  have hps := fun w0 => parse_ok [52, 50, 57, 52, 57, 54, 55, 50, 57, 54] (by decide) w0 reads_probe
  go_enter Tryd.func12, Tryd.ntmps12
  have B0 := Below.refl w.heap.size w
  go_wp2_with fail
  refine (div_any _ _ _ _ _ _ [0, 0, 1] [10] _ ((Ints.lit (w := _) .u32 4294967296 33 (fr := (0, 0)) (n := 3) [0, 0, 1] (by simp) rfl rfl (by decide)).alloc _) (Ints.lit (w := _) .u32 4294967296 33 (fr := (0, 0)) (n := 1) [10] (by simp) rfl rfl (by decide)) (by omega) (by omega) (by decide)).mono ?_
  rintro e w1 ⟨Aq, mq, Ar, mr, rfl, o_q, o_r, hmq, hmr, b1⟩
  have B1 := below_step ((B0.alloc B0.size _).alloc (B0.alloc B0.size _).size _) b1 ((B0.alloc B0.size _).alloc (B0.alloc B0.size _).size _).size
  go_wp2_with fail
  refine (div_zero _ _ _ _ _ _ [1] [0] _ ((Ints.lit (w := _) .u32 4294967296 33 (fr := (0, 0)) (n := 1) [1] (by simp) rfl rfl (by decide)).alloc _) (Ints.lit (w := _) .u32 4294967296 33 (fr := (0, 0)) (n := 1) [0] (by simp) rfl rfl (by decide)) (by omega) (by omega) (by decide)).mono ?_
  rintro e w2 ⟨rfl, b2⟩
  replace o_q := ((o_q.alloc _).alloc _).below b2
  replace o_r := ((o_r.alloc _).alloc _).below b2
  have B2 := below_step ((B1.alloc B1.size _).alloc (B1.alloc B1.size _).size _) b2 ((B1.alloc B1.size _).alloc (B1.alloc B1.size _).size _).size
  go_wp2_with fail
  refine (sub_any _ _ _ _ _ _ [0, 1] [1] _ ((Ints.lit (w := _) .u32 4294967296 33 (fr := (0, 0)) (n := 2) [0, 1] (by simp) rfl rfl (by decide)).alloc _) (Ints.lit (w := _) .u32 4294967296 33 (fr := (0, 0)) (n := 1) [1] (by simp) rfl rfl (by decide)) (by omega) (by omega) (by decide)).mono ?_
  rintro e w3 ⟨Ad, md, rfl, hmd, o_d, b3⟩
  replace o_q := ((o_q.alloc _).alloc _).below b3
  replace o_r := ((o_r.alloc _).alloc _).below b3
  have B3 := below_step ((B2.alloc B2.size _).alloc (B2.alloc B2.size _).size _) b3 ((B2.alloc B2.size _).alloc (B2.alloc B2.size _).size _).size
  go_wp2_with fail
  refine (hps _).mono ?_
  rintro e w4 ⟨Ap, mp, rfl, hmp, o_p, b4⟩
  replace o_q := o_q.below b4
  replace o_r := o_r.below b4
  replace o_d := o_d.below b4
  have B4 := below_step B3 b4 B3.size
  go_wp2_with fail
  refine (text_any _ _ _ _ _ o_q.ints (by omega)).mono ?_
  rintro e w5 ⟨rfl, b5⟩
  replace o_q := o_q.below b5
  replace o_r := o_r.below b5
  replace o_d := o_d.below b5
  replace o_p := o_p.below b5
  have B5 := below_step B4 b5 B4.size
  rw [vl_lmb, show vl [0, 0, 1] / vl [10] = 1844674407370955161 from rfl, text_probe]
  go_wp2_with fail
  refine (same_true _ _ _ _ _ _ _ [6] _ (o_r.alloc _).ints (Ints.lit (w := _) .u32 4294967296 33 (fr := (0, 0)) (n := 1) [6] (by simp) rfl rfl (by decide)) (by omega) (by omega) lmb_six).mono ?_
  rintro e w6 ⟨rfl, b6⟩
  replace o_q := (o_q.alloc _).below b6
  replace o_r := (o_r.alloc _).below b6
  replace o_d := (o_d.alloc _).below b6
  replace o_p := (o_p.alloc _).below b6
  have B6 := below_step (B5.alloc B5.size _) b6 (B5.alloc B5.size _).size
  go_wp2_with fail
  refine (same_true _ _ _ _ _ _ _ [4294967295] _ (o_d.alloc _).ints (Ints.lit (w := _) .u32 4294967296 33 (fr := (0, 0)) (n := 1) [4294967295] (by simp) rfl rfl (by decide)) (by omega) (by omega) lmb_top).mono ?_
  rintro e w7 ⟨rfl, b7⟩
  replace o_q := (o_q.alloc _).below b7
  replace o_r := (o_r.alloc _).below b7
  replace o_d := (o_d.alloc _).below b7
  replace o_p := (o_p.alloc _).below b7
  have B7 := below_step (B6.alloc B6.size _) b7 (B6.alloc B6.size _).size
  go_wp2_with fail
  refine (mul_any _ _ _ _ _ _ [2147483648] [2] _ ((Ints.lit (w := _) .u32 4294967296 33 (fr := (0, 0)) (n := 1) [2147483648] (by simp) rfl rfl (by decide)).alloc _) (Ints.lit (w := _) .u32 4294967296 33 (fr := (0, 0)) (n := 1) [2] (by simp) rfl rfl (by decide)) (by omega) (by omega)).mono ?_
  rintro e w8 ⟨Am, mm, rfl, hmm, o_m, b8⟩
  replace o_q := ((o_q.alloc _).alloc _).below b8
  replace o_r := ((o_r.alloc _).alloc _).below b8
  replace o_d := ((o_d.alloc _).alloc _).below b8
  replace o_p := ((o_p.alloc _).alloc _).below b8
  have B8 := below_step ((B7.alloc B7.size _).alloc (B7.alloc B7.size _).size _) b8 ((B7.alloc B7.size _).alloc (B7.alloc B7.size _).size _).size
  go_wp2_with fail
  refine (same_true _ _ _ _ _ _ _ [0, 1] _ (o_m.alloc _).ints (Ints.lit (w := _) .u32 4294967296 33 (fr := (0, 0)) (n := 2) [0, 1] (by simp) rfl rfl (by decide)) (by omega) (by omega) lmb_unit).mono ?_
  rintro e w9 ⟨rfl, b9⟩
  replace o_q := (o_q.alloc _).below b9
  replace o_r := (o_r.alloc _).below b9
  replace o_d := (o_d.alloc _).below b9
  replace o_p := (o_p.alloc _).below b9
  replace o_m := (o_m.alloc _).below b9
  have B9 := below_step (B8.alloc B8.size _) b9 (B8.alloc B8.size _).size
  go_wp2_with fail
  refine (same_true _ _ _ _ _ _ _ [0, 1] _ (o_p.alloc _).ints (Ints.lit (w := _) .u32 4294967296 33 (fr := (0, 0)) (n := 2) [0, 1] (by simp) rfl rfl (by decide)) (by omega) (by omega) lmb_unit).mono ?_
  rintro e w10 ⟨rfl, b10⟩
  replace o_q := (o_q.alloc _).below b10
  replace o_r := (o_r.alloc _).below b10
  replace o_d := (o_d.alloc _).below b10
  replace o_p := (o_p.alloc _).below b10
  replace o_m := (o_m.alloc _).below b10
  have B10 := below_step (B9.alloc B9.size _) b10 (B9.alloc B9.size _).size
  go_wp2_with fail
  refine (add_any _ _ _ _ _ _ [4294967295] [1] _ ((Ints.lit (w := _) .u32 4294967296 33 (fr := (0, 0)) (n := 1) [4294967295] (by simp) rfl rfl (by decide)).alloc _) (Ints.lit (w := _) .u32 4294967296 33 (fr := (0, 0)) (n := 1) [1] (by simp) rfl rfl (by decide)) (by omega) (by omega)).mono ?_
  rintro e w11 ⟨As, ms, rfl, hms, o_s, b11⟩
  replace o_q := ((o_q.alloc _).alloc _).below b11
  replace o_r := ((o_r.alloc _).alloc _).below b11
  replace o_d := ((o_d.alloc _).alloc _).below b11
  replace o_p := ((o_p.alloc _).alloc _).below b11
  replace o_m := ((o_m.alloc _).alloc _).below b11
  have B11 := below_step ((B10.alloc B10.size _).alloc (B10.alloc B10.size _).size _) b11 ((B10.alloc B10.size _).alloc (B10.alloc B10.size _).size _).size
  go_wp2_with fail
  refine (same_true _ _ _ _ _ _ _ [0, 1] _ (o_s.alloc _).ints (Ints.lit (w := _) .u32 4294967296 33 (fr := (0, 0)) (n := 2) [0, 1] (by simp) rfl rfl (by decide)) (by omega) (by omega) lmb_unit).mono ?_
  rintro e w12 ⟨rfl, b12⟩
  replace o_q := (o_q.alloc _).below b12
  replace o_r := (o_r.alloc _).below b12
  replace o_d := (o_d.alloc _).below b12
  replace o_p := (o_p.alloc _).below b12
  replace o_m := (o_m.alloc _).below b12
  replace o_s := (o_s.alloc _).below b12
  have B12 := below_step (B11.alloc B11.size _) b12 (B11.alloc B11.size _).size
  go_wp2_with fail
  refine (cmp_any _ _ _ _ _ _ [1, 0] [1] _ ((Ints.lit (w := _) .u32 4294967296 33 (fr := (0, 0)) (n := 2) [1, 0] (by simp) rfl rfl (by decide)).alloc _) (Ints.lit (w := _) .u32 4294967296 33 (fr := (0, 0)) (n := 1) [1] (by simp) rfl rfl (by decide)) (by omega) (by omega)).mono ?_
  rintro e w13 ⟨rfl, b13⟩
  replace o_q := ((o_q.alloc _).alloc _).below b13
  replace o_r := ((o_r.alloc _).alloc _).below b13
  replace o_d := ((o_d.alloc _).alloc _).below b13
  replace o_p := ((o_p.alloc _).alloc _).below b13
  replace o_m := ((o_m.alloc _).alloc _).below b13
  replace o_s := ((o_s.alloc _).alloc _).below b13
  have B13 := below_step ((B12.alloc B12.size _).alloc (B12.alloc B12.size _).size _) b13 ((B12.alloc B12.size _).alloc (B12.alloc B12.size _).size _).size
  rw [show Num.cmp (vl [1, 0]) (vl [1]) = 0 from rfl]
  go_wp2_with fail
  go_ret
  exact ⟨rfl, B13⟩
end Go.Proofs.YticheiocmhaakaaDoor
