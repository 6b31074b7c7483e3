/- Texts of several parts in one: NatK, Same, WholeB, Z, WholeC, WholeD, WholeE, Late, WholeF. Each says what it proves; no condition but those named there. -/
import Derived.Test.YticjhlbmdjijnaaDoorGJ
import Derived.Test.YticjhlbmdjijnaaDoorG3
import Derived.Test.YticjhlbmdjijnaaDoorGE
import Derived.OwnWalk
import Derived.Test.YticjhlbmdjijnaaDoorG2
import Derived.Test.YticjhlbmdjijnaaDoorG1
import Derived.Deep.RegionWith
import Derived.Sort.AtCall
import Derived.Deep.RegionHeld3
import Derived.OrdersHeld
import Derived.Deep.RegionHeld
import Derived.WalkKit
/- The contract of nat.Div. No condition but the reach of a slice. -/
namespace Go.Proofs.YticjhlbmdjijnaaDoor
open Go.RowKit

theorem OwnL.of_below {w w' : World} {base : Nat} {A : Option Addr} {n c : Nat} {l : List Nat} (h : OwnL w base A n c l) (hb : Below w.heap.size w w') : OwnL w' base A n c l := h.below hb

set_option maxRecDepth 100000 in
set_option maxHeartbeats 800000 in
theorem div_zero (A A' : Option Addr) (n c n' c' : Nat) (l l' : List Nat) (w : World) (hr : Lim w A n c l) (hr' : Lim w A' n' c' l') (hn : n ≤ 549755813888) (hn' : n' ≤ 549755813888) (h0 : vl l' = 0) :
    Calls Tryd.prog 24 #[.slice A n c, .slice A' n' c'] w fun e w' => e = .returned (.tuple #[.slice none 0 0, .slice none 0 0, .bool false]) ∧ Below w.heap.size w w' := by
  have t1 := fun w0 h0 => trim_any A n c l w0 h0 (by omega)
  have t2 := fun w0 h0 => trim_any A' n' c' l' w0 h0 (by omega)
  rw [h0] at t2
  clear h0
  go_enter Tryd.func24, Tryd.ntmps24
  go_wp2_with fail
  refine (t1 _ hr).mono ?_; rintro e w1 ⟨A1, m1, rfl, hm1, ho1, hb1⟩
  go_wp2_with fail
  refine (t2 _ (hr'.below hb1)).mono ?_; rintro e w2 ⟨A2, m2, rfl, hm2, ho2, hb2⟩
  have h2 := ho2.len
  rw [lmb_zero] at h2
  obtain rfl : 0 = m2 := h2
  go_wp2_with fail
  go_ret3
  exact ⟨rfl, below_step hb1 hb2 hb1.size⟩

set_option maxRecDepth 100000 in
set_option maxHeartbeats 1600000 in
theorem div_any (A A' : Option Addr) (n c n' c' : Nat) (l l' : List Nat) (w : World) (hr : Lim w A n c l) (hr' : Lim w A' n' c' l') (hn : n ≤ 549755813888) (hn' : n' ≤ 549755813888) (h0 : 0 < vl l') :
    Calls Tryd.prog 24 #[.slice A n c, .slice A' n' c'] w fun e w' => ∃ A2 m A3 m3, e = .returned (.tuple #[.slice A2 m m, .slice A3 m3 m3, .bool true]) ∧ OwnL w' w.heap.size A2 m m (lmb (vl l / vl l')) ∧ OwnL w' w.heap.size A3 m3 m3 (lmb (vl l % vl l')) ∧
      m ≤ n ∧ m3 ≤ n' ∧ Below w.heap.size w w' := by
  have t1 := fun w0 h0 => trim_any A n c l w0 h0 (by omega)
  have t2 := fun w0 h0 => trim_any A' n' c' l' w0 h0 (by omega)
  generalize vl l = a at *
  generalize vl l' = b at *
  go_enter Tryd.func24, Tryd.ntmps24
  go_wp2_with fail
  refine (t1 _ hr).mono ?_; rintro e w1 ⟨A1, m1, rfl, hm1, ho1, hb1⟩
  go_wp2_with fail
  refine (t2 _ (hr'.below hb1)).mono ?_; rintro e w2 ⟨A2, m2, rfl, hm2, ho2, hb2⟩
  have h1 : (lmb a).length = m1 := ho1.len
  have h2 : (lmb b).length = m2 := ho2.len
  have hbe := below_step hb1 hb2 hb1.size
  have o1 := ho1.below hb2
  have o2 := ho2.mono hb1.size
  have hpos : 0 < m2 := by
    rcases Nat.eq_zero_or_pos m2 with h | h
    · rw [h] at h2
      have := (Num.dig_eq_nil (b := 4294967296) (by decide) b).1 (List.eq_nil_of_length_eq_zero h2)
      omega
    · exact h
  clear ho1 ho2 t1 t2
  by_cases hlt : m1 < m2
  · have hab : a < b := Num.lt_of_len (b := 4294967296) (by decide) (by
      show (lmb a).length < (lmb b).length
      rw [h1, h2]; exact hlt)
    have H1 := Lib.hid (Nat.div_eq_of_lt hab)
    have H2 := Lib.hid (Nat.mod_eq_of_lt hab)
    clear hab h1 h2
    go_wp2_with fail
    go_ret3
    rw [H1.out, H2.out, lmb_zero]
    exact ⟨_, _, _, _, rfl, OwnI.nil_ .., o1, by omega, by omega, hbe⟩
  · rcases (show m2 = 1 ∨ 2 ≤ m2 by omega) with rfl | h22
    · obtain ⟨g, d, rfl, _, _, hd, hdl, hcd, _⟩ := o2.get (k := 0) (by omega)
      have hdb : d = b := by
        have e := vl_lmb b
        obtain ⟨x, hx⟩ : ∃ x, lmb b = [x] := List.length_eq_one_iff.1 h2
        rw [hx] at hd e
        simp at hd
        simp [vl, Num.val] at e
        omega
      subst hdb
      have hsm := small_any A1 m1 m1 (lmb a) w2 o1.ints (by omega) (by omega) d h0 hdl
      rw [vl_lmb] at hsm
      obtain ⟨r, hrr⟩ : ∃ r, a % d = r := ⟨_, rfl⟩
      have hrd : r < d := by rw [← hrr]; exact Nat.mod_lt _ h0
      rw [hrr] at hsm
      have HR := Lib.hid hrr
      clear hd h1 h2 hrr
      go_wp2_with fail
      refine hsm.mono ?_; rintro e w3 ⟨A3, m3, rfl, hm3, ho3, hb3⟩
      have ht := trim_any (some ⟨w3.heap.size, 0, none⟩) 1 1 [r] _ (Ints.one (w := w3) .u32 4294967296 43 r rfl (by omega) rfl) (by omega)
      rw [show vl [r] = r by simp [vl, Num.val]] at ht
      go_wp2_with fail
      refine ht.mono ?_; rintro e w4 ⟨A4, m4, rfl, hm4, ho4, hb4⟩
      go_wp2_with fail
      go_ret3
      rw [HR.out]
      have hs3 := hb3.size
      have hs2 := hbe.size
      have e3 : Below w.heap.size w w3 := below_step hbe hb3 hs2
      exact ⟨_, _, _, _, rfl, ((ho3.alloc _).below hb4).mono hs2, ho4.mono (by simp; omega), by omega, by omega, below_step (e3.alloc e3.size _) hb4 (by simp; omega)⟩
    · obtain ⟨tp, htp⟩ : ∃ tp, (lmb b)[m2 - 1]? = some tp := ⟨_, List.getElem?_eq_getElem (by omega)⟩
      have htp0 : 0 < tp := by
        have := Num.dig_top (b := 4294967296) (by decide) b tp (by
          show (lmb b)[(lmb b).length - 1]? = _
          rw [h2]; exact htp)
        omega
      have hlg := long_any A1 A2 m1 m1 m2 m2 (lmb a) (lmb b) w2 o1.ints o2.ints (by omega) h22 (by omega) tp htp htp0
      rw [vl_lmb, vl_lmb] at hlg
      clear htp h1 h2
      go_wp2_with fail
      refine hlg.mono ?_; rintro e w3 ⟨A3, m3, A4, m4, rfl, ho3, ho4, hm3, hm4, hb3⟩
      go_wp2_with fail
      go_ret3
      have hs2 := hbe.size
      exact ⟨_, _, _, _, rfl, ho3.mono hs2, ho4.mono hs2, by omega, by omega, below_step hbe hb3 hs2⟩

end Go.Proofs.YticjhlbmdjijnaaDoor

/- Whether rows are alike (heijunkaref01.Same); further contracts of Cmp; how long a number's row is. No condition but the reach of a slice. -/
namespace Go.Proofs.YticjhlbmdjijnaaDoor
open Go.RowKit

set_option maxRecDepth 100000 in
set_option maxHeartbeats 400000 in
theorem same_any (A B : Option Addr) (n c m d : Nat) (l k : List Nat) (w : World) (ha : Ints w .u32 4294967296 A n c l) (hb : Ints w .u32 4294967296 B m d k) (hn : n ≤ 140737488355328) (hm : m ≤ 140737488355328) :
    Calls Tryd.prog 28 #[.slice A n c, .slice B m d] w fun e w' => (∃ q, w' = w.drewN q) ∧ e = .returned (.bool (decide (l = k))) := by
  by_cases hnm : n = m
  · subst hnm
    go_enter Tryd.func28, Tryd.ntmps28
    go_wp2_with fail
    go_loopw [5] (fun i wr => ∃ j : Nat, j ≤ n ∧ i = .int .i64 j ∧ (∃ q, wr = w.drewN q) ∧ l.take j = k.take j) (fun i _ => n - (intOf i).toNat)
    case atStart => exact ⟨0, by omega, rfl, ⟨0, rfl⟩, rfl⟩
    case round =>
      obtain ⟨j, hj, rfl, ⟨q, rfl⟩, heq⟩ := hrel
      by_cases hlt : j < n
      · obtain ⟨b, o, x, rfl, _, hx, hxl, hc⟩ := ha.get hlt
        obtain ⟨b', o', y, rfl, _, hy, hyl, hcy⟩ := hb.get hlt
        have hcx' : (w.drewN q).cell? ⟨b, o + j, none⟩ = some (.int .u32 (x : Int)) := hc
        have hcy' : (w.drewN q).cell? ⟨b', o' + j, none⟩ = some (.int .u32 (y : Int)) := hcy
        have HE := Lib.hid heq
        have HX := Lib.hid hx
        have HY := Lib.hid hy
        clear heq hx hy
        by_cases hxy : x = y
        · have ht : ((x : Int) != (y : Int)) = false := by simp [hxy]
          have HXY := Lib.hid hxy
          clear hxy
          go_wp2_with (go_quiet (fail))
          exact ⟨⟨j + 1, by omega, by go_num, ⟨_, rfl⟩, by rw [List.take_add_one, List.take_add_one, HE.out, HX.out, HY.out, HXY.out]⟩, by simp [intOf]; omega⟩
        · have ht : ((x : Int) != (y : Int)) = true := by simp; omega
          have hne : l ≠ k := by
            rintro rfl
            have := HX.out.symm.trans HY.out
            exact hxy (Option.some.inj this)
          go_wp2_with (go_quiet (fail))
          go_ret
          exact ⟨⟨_, World.drewN_drewN ..⟩, ret_bool (decide_eq_false hne).symm⟩
      · obtain rfl : j = n := by omega
        have he : l = k := by
          rw [List.take_of_length_le (by rw [ha.len]; omega), List.take_of_length_le (by rw [hb.len]; omega)] at heq
          exact heq
        have HE := Lib.hid he
        clear heq he
        go_wp2_with fail
        go_ret
        exact ⟨⟨_, rfl⟩, ret_bool (decide_eq_true HE.out).symm⟩
  · have hne : l ≠ k := by
      rintro rfl
      exact hnm (ha.len.symm.trans hb.len)
    have ht : ((n : Int) != (m : Int)) = true := by simp; omega
    go_enter Tryd.func28, Tryd.ntmps28
    go_wp2_with fail
    go_ret
    exact ⟨⟨0, rfl⟩, ret_bool (decide_eq_false hne).symm⟩

theorem same_true (A B : Option Addr) (n c m d : Nat) (l k : List Nat) (w : World) (ha : Lim w A n c l) (hb : Lim w B m d k) (hn : n ≤ 140737488355328) (hm : m ≤ 140737488355328) (he : l = k) :
    Calls Tryd.prog 28 #[.slice A n c, .slice B m d] w fun e w' => e = .returned (.bool true) ∧ Below w.heap.size w w' :=
  (same_any A B n c m d l k w ha hb hn hm).mono fun e w' ⟨⟨q, h1⟩, h2⟩ => ⟨by rw [h2, decide_eq_true he], by rw [h1]; exact below_drewN (Below.refl _ _) q⟩
theorem same_below (A B : Option Addr) (n c m d : Nat) (l k : List Nat) (w : World) (ha : Lim w A n c l) (hb : Lim w B m d k) (hn : n ≤ 140737488355328) (hm : m ≤ 140737488355328) :
    Calls Tryd.prog 28 #[.slice A n c, .slice B m d] w fun e w' => e = .returned (.bool (decide (l = k))) ∧ Below w.heap.size w w' :=
  (same_any A B n c m d l k w ha hb hn hm).mono fun e w' ⟨⟨q, h1⟩, h2⟩ => ⟨h2, by rw [h1]; exact below_drewN (Below.refl _ _) q⟩
theorem lmb_lit (L : List Nat) (h : (L.all fun x => decide (x < 4294967296)) = true) (ht : (match L.getLast? with | none => true | some x => decide (x ≠ 0)) = true) : lmb (vl L) = L := by
  refine Num.dig_val (by decide) L (fun x hx => of_decide_eq_true (List.all_eq_true.1 h x hx)) ?_
  intro x hx
  rw [List.getLast?_eq_getElem?, hx] at ht
  exact of_decide_eq_true ht
theorem cmp_is (A A' : Option Addr) (n c n' c' : Nat) (l l' : List Nat) (w : World) (hr : Lim w A n c l) (hr' : Lim w A' n' c' l') (hn : n ≤ 1099511627776) (hn' : n' ≤ 1099511627776) (z : Int) (hz : Num.cmp (vl l) (vl l') = z) :
    Calls Tryd.prog 38 #[.slice A n c, .slice A' n' c'] w fun e w' => e = .returned (.int .i64 z) ∧ Below w.heap.size w w' := by
  subst hz
  exact cmp_any A A' n c n' c' l l' w hr hr' hn hn'
theorem cmp_ge (A A' : Option Addr) (n c n' c' : Nat) (l l' : List Nat) (w : World) (hr : Lim w A n c l) (hr' : Lim w A' n' c' l') (hn : n ≤ 1099511627776) (hn' : n' ≤ 1099511627776) (hz : vl l' ≤ vl l) :
    Calls Tryd.prog 38 #[.slice A n c, .slice A' n' c'] w fun e w' => ∃ z : Int, 0 ≤ z ∧ e = .returned (.int .i64 z) ∧ Below w.heap.size w w' := by
  refine (cmp_any A A' n c n' c' l l' w hr hr' hn hn').mono fun e w' ⟨h1, h2⟩ => ⟨_, ?_, h1, h2⟩
  rcases Nat.lt_or_eq_of_le hz with h | h
  · rw [Num.cmp_gt h]; decide
  · rw [h, Num.cmp_eq]; decide
theorem same_not (A B : Option Addr) (n c m d : Nat) (l k : List Nat) (w : World) (ha : Lim w A n c l) (hb : Lim w B m d k) (hn : n ≤ 140737488355328) (hm : m ≤ 140737488355328) (he : l ≠ k) :
    Calls Tryd.prog 28 #[.slice A n c, .slice B m d] w fun e w' => e = .returned (.bool false) ∧ Below w.heap.size w w' :=
  (same_below A B n c m d l k w ha hb hn hm).mono fun e w' ⟨h1, h2⟩ => ⟨by rw [h1, decide_eq_false he], h2⟩

theorem lmb_len_pos {w : World} {base : Nat} {A : Option Addr} {m c v : Nat} (h : OwnL w base A m c (lmb v)) (hv : 0 < v) : 0 < m := by
  rcases Nat.eq_zero_or_pos m with h0 | h0
  · have h1 := h.len
    rw [h0] at h1
    have := (Num.dig_eq_nil (b := 4294967296) (by decide) v).1 (List.eq_nil_of_length_eq_zero h1)
    omega
  · exact h0
theorem lmb_len_zero {w : World} {base : Nat} {A : Option Addr} {m c v : Nat} (h : OwnL w base A m c (lmb v)) (hv : v = 0) : m = 0 := by
  have h1 := h.len
  rw [hv, lmb_zero] at h1
  exact h1.symm
end Go.Proofs.YticjhlbmdjijnaaDoor

/- The contracts of package whole: Cmp, Add, Sub, Mul. No condition but the reach of a slice. -/
namespace Go.Proofs.YticjhlbmdjijnaaDoor
open Go.RowKit

theorem zcmp_zv (na nb ba bb : Bool) (x y : Nat) (ha : decide (zv na x < 0) = ba) (hb : decide (zv nb y < 0) = bb) :
    zcmp (zv na x) (zv nb y) = if ba && !bb then -1 else if bb && !ba then 1 else if ba then Num.cmp y x else Num.cmp x y := by
  have h1 := zv_abs na x
  have h2 := zv_abs nb y
  generalize zv na x = a at *
  generalize zv nb y = b at *
  subst h1 h2
  cases ba <;> cases bb <;> simp only [decide_eq_true_eq, decide_eq_false_iff_not] at ha hb
  · have e1 : a = (a.natAbs : Int) := by omega
    have e2 : b = (b.natAbs : Int) := by omega
    rw [e1, e2, zcmp_pos]; simp
  · rw [zcmp_gt (by omega)]; rfl
  · rw [zcmp_lt (by omega)]; rfl
  · have e1 : a = -(a.natAbs : Int) := by omega
    have e2 : b = -(b.natAbs : Int) := by omega
    rw [e1, e2, zcmp_neg, zcmp_pos]; simp

set_option maxRecDepth 100000 in
set_option maxHeartbeats 1600000 in
theorem wcmp_any (na nb : Bool) (A B : Option Addr) (n c m d : Nat) (l k : List Nat) (w : World) (ha : Lim w A n c l) (hb : Lim w B m d k) (hn : n ≤ 1099511627776) (hm : m ≤ 1099511627776) :
    Calls Tryd.prog 19 #[.agg #[.bool na, .slice A n c], .agg #[.bool nb, .slice B m d]] w fun e w' => e = .returned (.int .i64 (zcmp (zv na (vl l)) (zv nb (vl k)))) ∧ Below w.heap.size w w' := by
  obtain ⟨ba, hba⟩ : ∃ ba, decide (zv na (vl l) < 0) = ba := ⟨_, rfl⟩
  obtain ⟨bb, hbb⟩ : ∃ bb, decide (zv nb (vl k) < 0) = bb := ⟨_, rfl⟩
  have HZ := Lib.hid (zcmp_zv na nb ba bb (vl l) (vl k) hba hbb)
  have pa := fun w0 h0 => plain_any na A n c l w0 h0 hn
  have pb := fun w0 h0 => plain_any nb B m d k w0 h0 hm
  rw [hba] at pa
  rw [hbb] at pb
  clear hba hbb
  go_enter Tryd.func19, Tryd.ntmps19
  go_wp2_with fail
  have k0 : Blk ((w.alloc (.cells #[.bool na, .slice A n c] 24)).alloc (.cells #[.bool nb, .slice B m d] 24)) w.heap.size 24 #[.bool na, .slice A n c] := (Blk.new w _ _).alloc _
  have k1 : Blk ((w.alloc (.cells #[.bool na, .slice A n c] 24)).alloc (.cells #[.bool nb, .slice B m d] 24)) (w.heap.size + 1) 24 #[.bool nb, .slice B m d] := Blk.new_at _ _ _ (by simp)
  have c0 := k0.c0
  have c1 := k0.c1
  have c2 := k1.c0
  have c3 := k1.c1
  go_region_with (first
      | (go_at_call_has 20 (Value.agg #[.bool na, .slice A n c]); refine (pa _ ?_).mono ?_; (exact ((ha.alloc _).alloc _).drew); rintro e w1 ⟨A1, m1, rfl, hm1, ho1, hb1⟩; have q0 := k0.drew.below hb1 (by simp; omega); have q1 := k1.drew.below hb1 (by simp); have d0 := q0.c0; have d1 := q0.c1; have d2 := q1.c0; have d3 := q1.c1)
      | (go_at_call_has 20 (Value.agg #[.bool nb, .slice B m d]); refine (pb _ ?_).mono ?_; (exact (((hb.alloc _).alloc _).drew).below hb1); rintro e w2 ⟨A2, m2, rfl, hm2, ho2, hb2⟩; have r0 := q0.below hb2 q0.lt; have r1 := q1.below hb2 q1.lt; have e0 := r0.c0; have e1 := r0.c1; have e2 := r1.c0; have e3 := r1.c1; have f0 := r0.frozen 0; have f1 := r0.frozen 1; have f2 := r1.frozen 0; have f3 := r1.frozen 1))
  all_goals
    have s0 := (r0.st2 (.bool ba) (.slice A1 m1 m1)).far2 (g := w.heap.size + 1) (by omega) (.bool bb) (.slice A2 m2 m2)
    have s1 := (r1.far2 (g := w.heap.size) (by omega) (.bool ba) (.slice A1 m1 m1)).st2 (.bool bb) (.slice A2 m2 m2)
    have g0 := s0.c0
    have g1 := s0.c1
    have g2 := s1.c0
    have g3 := s1.c1
    have hb0 : Below w.heap.size w w2 := below_step (below_step (((Below.refl _ _).alloc (Nat.le_refl _) _).alloc (by simp) _).drew hb1 (by simp; omega)) hb2 (by have := hb1.size; simp at this; omega)
    have x1 := ((ho1.below hb2).st2 (g := w.heap.size) (fun ad he => by have := (ho1.lt_ ad he).1; simp at this; omega) (.bool ba) (.slice A1 m1 m1)).st2 (g := w.heap.size + 1) (fun ad he => by have := (ho1.lt_ ad he).1; simp at this; omega) (.bool bb) (.slice A2 m2 m2)
    have x2 := (ho2.st2 (g := w.heap.size) (fun ad he => by have := (ho2.lt_ ad he).1; have := hb1.size; simp at this; omega) (.bool ba) (.slice A1 m1 m1)).st2 (g := w.heap.size + 1) (fun ad he => by have := (ho2.lt_ ad he).1; have := hb1.size; simp at this; omega) (.bool bb) (.slice A2 m2 m2)
    have y := below_st2 (below_st2 hb0 (Nat.le_refl _) (.bool ba) (.slice A1 m1 m1)) (g := w.heap.size + 1) (by omega) (.bool bb) (.slice A2 m2 m2)
    generalize ((((w2.setCell ⟨w.heap.size, 0, none⟩ (.bool ba)).setCell ⟨w.heap.size, 1, none⟩ (.slice A1 m1 m1)).setCell ⟨w.heap.size + 1, 0, none⟩ (.bool bb)).setCell ⟨w.heap.size + 1, 1, none⟩ (.slice A2 m2 m2)) = w3 at *
    clear s0 s1 r0 r1 q0 q1 k0 k1 c0 c1 c2 c3 d0 d1 d2 d3 e0 e1 e2 e3 f0 f1 f2 f3 pa pb
    have cab := fun w0 h0 h1 => cmp_any A1 A2 m1 m1 m2 m2 (lmb (vl l)) (lmb (vl k)) w0 h0 h1 (by omega) (by omega)
    have cba := fun w0 h0 h1 => cmp_any A2 A1 m2 m2 m1 m1 (lmb (vl k)) (lmb (vl l)) w0 h0 h1 (by omega) (by omega)
    simp only [vl_lmb] at cab cba
    cases ba
    · cases bb
      · go_wp2_with fail
        refine (cab _ x1.ints x2.ints).mono ?_; rintro e w4 ⟨rfl, hb4⟩
        go_wp2_with fail
        go_ret
        rw [HZ.out]
        exact ⟨rfl, below_step y hb4 y.size⟩
      · go_wp2_with fail
        go_ret
        rw [HZ.out]
        exact ⟨rfl, y⟩
    · cases bb
      · go_wp2_with fail
        go_ret
        rw [HZ.out]
        exact ⟨rfl, y⟩
      · go_wp2_with fail
        refine (cba _ x2.ints x1.ints).mono ?_; rintro e w4 ⟨rfl, hb4⟩
        go_wp2_with fail
        go_ret
        rw [HZ.out]
        exact ⟨rfl, below_step y hb4 y.size⟩
end Go.Proofs.YticjhlbmdjijnaaDoor

/- Whole numbers in memory, and structs in blocks of their own, kept through a walk as one fact. No condition. -/
namespace Go.Proofs.YticjhlbmdjijnaaDoor
open Go.RowKit

/-- A sign and a slice that read as the whole number z, of at most k limbs; p: they are plain. -/
structure ZIs (w : World) (b : Bool) (A : Option Addr) (n c : Nat) (z : Int) (k : Nat) (p : Bool) : Prop where
  ex : ∃ l, Lim w A n c l ∧ zv b (vl l) = z ∧ (p = true → l = lmb z.natAbs ∧ b = decide (z < 0))
  few : n ≤ k

section
variable {w w' : World} {b : Bool} {A : Option Addr} {n c : Nat} {z : Int} {k : Nat} {p : Bool}
theorem ZIs.plain {A : Option Addr} (h : Lim w A n c (lmb z.natAbs)) (hb : decide (z < 0) = b) (hk : n ≤ k) : ZIs w b A n c z k true :=
  ⟨⟨_, h, by rw [vl_lmb, ← hb, zv_of], fun _ => ⟨rfl, hb.symm⟩⟩, hk⟩
theorem ZIs.of_lim {l : List Nat} (h : Lim w A n c l) (hk : n ≤ k) : ZIs w b A n c (zv b (vl l)) k false := ⟨⟨l, h, rfl, fun h => by cases h⟩, hk⟩
theorem ZIs.mono {k' : Nat} (h : ZIs w b A n c z k p) (hk : k ≤ k') : ZIs w b A n c z k' p := ⟨h.ex, Nat.le_trans h.few hk⟩
theorem ZIs.keep {w' : World} (h : ZIs w b A n c z k p) (hk : ∀ l, Lim w A n c l → Lim w' A n c l) : ZIs w' b A n c z k p := by
  obtain ⟨⟨l, h1, h2⟩, h3⟩ := h
  exact ⟨⟨l, hk l h1, h2⟩, h3⟩
theorem ZIs.below (h : ZIs w b A n c z k p) (hb : Below w.heap.size w w') : ZIs w' b A n c z k p := h.keep fun _ h => h.below hb
theorem ZIs.alloc (h : ZIs w b A n c z k p) (o : Obj) : ZIs (w.alloc o) b A n c z k p := h.keep fun _ h => h.alloc o
theorem ZIs.drew (h : ZIs w b A n c z k p) : ZIs w.drew b A n c z k p := h.keep fun _ h => h.drew
/-- The limbs of a number's magnitude. -/
theorem ZIs.lim (h : ZIs w b A n c z k p) : ∃ l, Lim w A n c l ∧ vl l = z.natAbs ∧ zv b (vl l) = z := by
  obtain ⟨⟨l, h1, h2, _⟩, _⟩ := h
  exact ⟨l, h1, by rw [← h2, zv_abs], h2⟩
theorem ZIs.limbs (h : ZIs w b A n c z k true) : Lim w A n c (lmb z.natAbs) ∧ b = decide (z < 0) := by
  obtain ⟨⟨l, h1, _, h3⟩, _⟩ := h
  obtain ⟨rfl, h4⟩ := h3 rfl
  exact ⟨h1, h4⟩
theorem ZIs.len (h : ZIs w b A n c z k true) : (lmb z.natAbs).length = n := h.limbs.1.len
theorem ZIs.zero_iff (h : ZIs w b A n c z k true) : n = 0 ↔ z = 0 := by
  have h1 := h.len
  constructor
  · intro h0
    rw [h0] at h1
    have := (Num.dig_eq_nil (b := 4294967296) (by decide) z.natAbs).1 (List.eq_nil_of_length_eq_zero h1)
    omega
  · intro h0
    subst h0
    rw [← h1, show (0 : Int).natAbs = 0 from rfl, lmb_zero]
    rfl
theorem ZIs.nil_ (w : World) (A : Option Addr) (c k : Nat) : ZIs w false A 0 c 0 k true := ZIs.plain (by rw [show lmb (0 : Int).natAbs = [] from lmb_zero]; exact Ints.nil_ ..) rfl (Nat.zero_le _)
theorem ZIs.of_own {base : Nat} (h : OwnL w base A n c (lmb z.natAbs)) (hb : decide (z < 0) = b) (hk : n ≤ k) : ZIs w b A n c z k true := ZIs.plain h.ints hb hk
end

/-- No number: what a struct's cells hold here. -/
def notInt : Value → Bool
  | .int _ _ => false
  | _ => true
theorem Ints.blkset {w : World} {kd : IntKind} {lim : Nat} {A : Option Addr} {n c : Nat} {l : List Nat} (h : Ints w kd lim A n c l) {g : Nat} {t : TypeId} {cs : Array Value} (hg : Blk w g t cs) (hc : cs.toList.all notInt = true) (j : Nat) (u : Value) :
    Ints (w.setCell ⟨g, j, none⟩ u) kd lim A n c l := by
  rcases Nat.eq_zero_or_pos n with h0 | h0
  · subst h0
    have : l = [] := List.eq_nil_of_length_eq_zero h.len
    subst this
    exact ⟨⟨rfl, h.rd.cap, fun h => absurd h (by omega)⟩, h.lt⟩
  · obtain ⟨b, o, x, rfl, hb, hx, _, hcell⟩ := h.get (k := 0) h0
    refine h.setCell (fun ad he => ?_) u
    cases he
    intro e
    have e' : b = g := e
    subst e'
    rw [hg.cell] at hcell
    rw [List.all_eq_true] at hc
    have := hc _ (Array.mem_toList_iff.2 (Array.mem_of_getElem? hcell))
    cases this
theorem ZIs.blkset {w : World} {b : Bool} {A : Option Addr} {n c : Nat} {z : Int} {k : Nat} {p : Bool} (h : ZIs w b A n c z k p) {g : Nat} {t : TypeId} {cs : Array Value} (hg : Blk w g t cs) (hc : cs.toList.all notInt = true) (j : Nat) (u : Value) :
    ZIs (w.setCell ⟨g, j, none⟩ u) b A n c z k p := h.keep fun _ h => h.blkset hg hc j u

abbrev Bl := Nat × TypeId × Array Value
structure Zt where
  (b : Bool) (A : Option Addr) (n c : Nat) (z : Int) (k : Nat) (p : Bool)

/-- What a walk keeps: structs' blocks, its own, and whole numbers. -/
structure Env (w0 w : World) (bl : List Bl) (zs : List Zt) : Prop where
  bel : Below w0.heap.size w0 w
  blk : ∀ (i : Nat) (g : Nat) (t : TypeId) (cs : Array Value), bl[i]? = some (g, t, cs) → w0.heap.size ≤ g ∧ Blk w g t cs ∧ cs.toList.all notInt = true
  nd : (bl.map (·.1)).Nodup
  zis : ∀ (i : Nat) (x : Zt), zs[i]? = some x → ZIs w x.b x.A x.n x.c x.z x.k x.p

section
variable {w0 w w' : World} {bl : List Bl} {zs : List Zt}
theorem Env.nil_ (w : World) : Env w w [] [] := ⟨Below.refl _ _, fun i _ _ _ h => by simp at h, by simp, fun i x h => by simp at h⟩
theorem Env.size (E : Env w0 w bl zs) : w0.heap.size ≤ w.heap.size := E.bel.size
theorem Env.b {g : Nat} {t : TypeId} {cs : Array Value} (E : Env w0 w bl zs) (i : Nat) (h : bl[i]? = some (g, t, cs)) : Blk w g t cs := (E.blk i g t cs h).2.1
theorem Env.cell {g : Nat} {t : TypeId} {cs : Array Value} {u : Value} (E : Env w0 w bl zs) (i j : Nat) (h : bl[i]? = some (g, t, cs)) (hu : cs.toList[j]? = some u) : w.cell? ⟨g, j, none⟩ = some u := by
  rw [((E.blk i g t cs h).2.1).cell j]; simpa using hu
theorem Env.frozen {g : Nat} {t : TypeId} {cs : Array Value} (E : Env w0 w bl zs) (i j : Nat) (h : bl[i]? = some (g, t, cs)) : w.frozen? ⟨g, j, none⟩ = false := ((E.blk i g t cs h).2.1).frozen j
theorem Env.z {b : Bool} {A : Option Addr} {n c : Nat} {z : Int} {k : Nat} {p : Bool} (E : Env w0 w bl zs) (i : Nat) (h : zs[i]? = some ⟨b, A, n, c, z, k, p⟩) : ZIs w b A n c z k p := E.zis i _ h
theorem Env.below (E : Env w0 w bl zs) (hb : Below w.heap.size w w') : Env w0 w' bl zs :=
  ⟨below_step E.bel hb E.size, fun i g t cs h => by obtain ⟨h1, h2, h3⟩ := E.blk i g t cs h; exact ⟨h1, h2.below hb h2.lt, h3⟩, E.nd, fun i x h => (E.zis i x h).below hb⟩
theorem Env.drew (E : Env w0 w bl zs) : Env w0 w.drew bl zs :=
  ⟨E.bel.drew, fun i g t cs h => by obtain ⟨h1, h2, h3⟩ := E.blk i g t cs h; exact ⟨h1, h2.drew, h3⟩, E.nd, fun i x h => (E.zis i x h).drew⟩
/-- Some other block, of which nothing is kept. -/
theorem Env.other (E : Env w0 w bl zs) (o : Obj) : Env w0 (w.alloc o) bl zs :=
  ⟨E.bel.alloc E.size o, fun i g t cs h => by obtain ⟨h1, h2, h3⟩ := E.blk i g t cs h; exact ⟨h1, h2.alloc o, h3⟩, E.nd, fun i x h => (E.zis i x h).alloc o⟩
/-- A struct's block. -/
theorem Env.alloc (E : Env w0 w bl zs) (t : TypeId) (cs : Array Value) {g : Nat} (hg : g = w.heap.size) (hc : cs.toList.all notInt = true) : Env w0 (w.alloc (.cells cs t)) ((g, t, cs) :: bl) zs := by
  subst hg
  refine ⟨E.bel.alloc E.size _, fun i g t' cs' h => ?_, ?_, fun i x h => (E.zis i x h).alloc _⟩
  · cases i with
    | zero =>
      simp only [List.getElem?_cons_zero, Option.some.injEq, Prod.mk.injEq] at h
      obtain ⟨rfl, rfl, rfl⟩ := h
      exact ⟨E.size, Blk.new w t cs, hc⟩
    | succ i =>
      obtain ⟨h1, h2, h3⟩ := E.blk i g t' cs' (by simpa using h)
      exact ⟨h1, h2.alloc _, h3⟩
  · rw [List.map_cons, List.nodup_cons]
    refine ⟨fun hm => ?_, E.nd⟩
    obtain ⟨⟨g, t', cs'⟩, hx, hg⟩ := List.mem_map.1 hm
    obtain ⟨i, hi⟩ := List.getElem?_of_mem hx
    have := (E.blk i g t' cs' hi).2.1.lt
    simp at hg
    omega
theorem Env.add (E : Env w0 w bl zs) {b : Bool} {A : Option Addr} {n c : Nat} {z : Int} {k : Nat} {p : Bool} (h : ZIs w b A n c z k p) : Env w0 w bl (⟨b, A, n, c, z, k, p⟩ :: zs) :=
  ⟨E.bel, E.blk, E.nd, fun i x hx => by
    cases i with
    | zero => simp only [List.getElem?_cons_zero, Option.some.injEq] at hx; subst hx; exact h
    | succ i => exact E.zis i x (by simpa using hx)⟩
theorem Env.set (E : Env w0 w bl zs) (i j : Nat) (u : Value) {g : Nat} {t : TypeId} {cs : Array Value} (h : bl[i]? = some (g, t, cs)) (hu : notInt u = true) : Env w0 (w.setCell ⟨g, j, none⟩ u) (bl.set i (g, t, cs.setIfInBounds j u)) zs := by
  obtain ⟨h1, h2, h3⟩ := E.blk i g t cs h
  have hi := (List.getElem?_eq_some_iff.1 h).1
  refine ⟨E.bel.setCell h1 u, fun i' g' t' cs' h' => ?_, ?_, fun i' x hx => (E.zis i' x hx).blkset h2 h3 j u⟩
  · by_cases hii : i = i'
    · subst hii
      rw [List.getElem?_set_self hi] at h'
      cases h'
      refine ⟨h1, h2.set_ j u, ?_⟩
      rw [List.all_eq_true] at h3 ⊢
      intro v hv
      rcases Array.mem_or_eq_of_mem_setIfInBounds (Array.mem_toList_iff.1 hv) with hv | rfl
      · exact h3 v (Array.mem_toList_iff.2 hv)
      · exact hu
    · rw [List.getElem?_set_ne hii] at h'
      obtain ⟨k1, k2, k3⟩ := E.blk i' g' t' cs' h'
      refine ⟨k1, k2.far (p := ⟨g, j, none⟩) (fun e => ?_) u, k3⟩
      have hi' := (List.getElem?_eq_some_iff.1 h').1
      have e : g' = g := e
      have hn := E.nd
      rw [List.nodup_iff_pairwise_ne, List.pairwise_iff_getElem] at hn
      have e1 : (bl.map (·.1))[i]'(by simpa using hi) = g := by
        have := (List.getElem?_eq_some_iff.1 h).2
        simp [this]
      have e2 : (bl.map (·.1))[i']'(by simpa using hi') = g' := by
        have := (List.getElem?_eq_some_iff.1 h').2
        simp [this]
      rcases Nat.lt_or_gt_of_ne hii with hlt | hlt
      · exact hn i i' (by simpa using hi) (by simpa using hi') hlt (by rw [e1, e2, e])
      · exact hn i' i (by simpa using hi') (by simpa using hi) hlt (by rw [e1, e2, e])
  · have : (bl.set i (g, t, cs.setIfInBounds j u)).map (·.1) = bl.map (·.1) := by
      rw [List.map_set]
      refine List.ext_getElem? fun m => ?_
      by_cases hm : i = m
      · subst hm
        rw [List.getElem?_set_self (by simpa using hi), List.getElem?_map, h]
        rfl
      · rw [List.getElem?_set_ne hm]
    rw [this]; exact E.nd
theorem Env.st2 {a b : Value} (E : Env w0 w bl zs) (i : Nat) (u v : Value) {g : Nat} {t : TypeId} (h : bl[i]? = some (g, t, #[a, b])) (hu : notInt u = true) (hv : notInt v = true) :
    Env w0 ((w.setCell ⟨g, 0, none⟩ u).setCell ⟨g, 1, none⟩ v) (bl.set i (g, t, #[u, v])) zs := by
  have hi := (List.getElem?_eq_some_iff.1 h).1
  have E1 := (E.set i 0 u h hu).set i 1 v (List.getElem?_set_self hi) hv
  rw [List.set_set] at E1
  exact E1
end
end Go.Proofs.YticjhlbmdjijnaaDoor

/- The contracts of package whole: Add, Sub, Mul. No condition but the reach of a slice. -/
namespace Go.Proofs.YticjhlbmdjijnaaDoor
open Go.RowKit

theorem zv_plain (na ba : Bool) (x : Nat) (h : decide (zv na x < 0) = ba) : zv na x = zv ba x := by
  have h1 := zv_of (zv na x)
  rw [h, zv_abs] at h1
  exact h1.symm

set_option maxRecDepth 100000 in
set_option maxHeartbeats 3200000 in
theorem wadd_any (na nb : Bool) (A B : Option Addr) (n c m d : Nat) (l k : List Nat) (w : World) (ha : Lim w A n c l) (hb : Lim w B m d k) (hn : n ≤ 268435456) (hm : m ≤ 268435456) :
    Calls Tryd.prog 13 #[.agg #[.bool na, .slice A n c], .agg #[.bool nb, .slice B m d]] w fun e w' => ∃ A2 q, e = .returned (.agg #[.bool (decide (zv na (vl l) + zv nb (vl k) < 0)), .slice A2 q q]) ∧ q ≤ max n m + 1 ∧ OwnL w' w.heap.size A2 q q (lmb (zv na (vl l) + zv nb (vl k)).natAbs) ∧ Below w.heap.size w w' := by
  obtain ⟨ba, hba⟩ : ∃ ba, decide (zv na (vl l) < 0) = ba := ⟨_, rfl⟩
  obtain ⟨bb, hbb⟩ : ∃ bb, decide (zv nb (vl k) < 0) = bb := ⟨_, rfl⟩
  have pa := fun w0 h0 => plain_any na A n c l w0 h0 (by omega)
  have pb := fun w0 h0 => plain_any nb B m d k w0 h0 (by omega)
  rw [hba] at pa
  rw [hbb] at pb
  have za := zv_plain na ba (vl l) hba
  have zb := zv_plain nb bb (vl k) hbb
  have HA := Lib.hid za
  have HB := Lib.hid zb
  clear hba hbb za zb
  go_enter Tryd.func13, Tryd.ntmps13
  go_wp2_with fail
  have k0 : Blk (((w.alloc (.cells #[.bool na, .slice A n c] 24)).alloc (.cells #[.bool nb, .slice B m d] 24)).alloc (.cells #[.bool false, .slice none 0 0] 24)) w.heap.size 24 #[.bool na, .slice A n c] := ((Blk.new w _ _).alloc _).alloc _
  have k1 : Blk (((w.alloc (.cells #[.bool na, .slice A n c] 24)).alloc (.cells #[.bool nb, .slice B m d] 24)).alloc (.cells #[.bool false, .slice none 0 0] 24)) (w.heap.size + 1) 24 #[.bool nb, .slice B m d] := Blk.alloc (Blk.new_at _ _ _ (by simp)) _
  have c0 := k0.c0
  have c1 := k0.c1
  have c2 := k1.c0
  have c3 := k1.c1
  have l0 : Blk (((w.alloc (.cells #[.bool na, .slice A n c] 24)).alloc (.cells #[.bool nb, .slice B m d] 24)).alloc (.cells #[.bool false, .slice none 0 0] 24)) (w.heap.size + 2) 24 #[.bool false, .slice none 0 0] := Blk.new_at (g := w.heap.size + 2) ((w.alloc (.cells #[.bool na, .slice A n c] 24)).alloc (.cells #[.bool nb, .slice B m d] 24)) 24 #[.bool false, .slice none 0 0] (by simp)
  go_region_with (first
      | (go_at_call_has 20 (Value.agg #[.bool na, .slice A n c]); refine (pa _ ?_).mono ?_; (exact (((ha.alloc _).alloc _).alloc _).drew); rintro e w1 ⟨A1, m1, rfl, hm1, ho1, hb1⟩; have q0 := k0.drew.below hb1 (by simp; omega); have q1 := k1.drew.below hb1 (by simp); have d0 := q0.c0; have d1 := q0.c1; have d2 := q1.c0; have d3 := q1.c1)
      | (go_at_call_has 20 (Value.agg #[.bool nb, .slice B m d]); refine (pb _ ?_).mono ?_; (exact ((((hb.alloc _).alloc _).alloc _).drew).below hb1); rintro e w2 ⟨A2, m2, rfl, hm2, ho2, hb2⟩; have r0 := q0.below hb2 q0.lt; have r1 := q1.below hb2 q1.lt; have e0 := r0.c0; have e1 := r0.c1; have e2 := r1.c0; have e3 := r1.c1; have f0 := r0.frozen 0; have f1 := r0.frozen 1; have f2 := r1.frozen 0; have f3 := r1.frozen 1))
  all_goals
    have s0 := (r0.st2 (.bool ba) (.slice A1 m1 m1)).far2 (g := w.heap.size + 1) (by omega) (.bool bb) (.slice A2 m2 m2)
    have s1 := (r1.far2 (g := w.heap.size) (by omega) (.bool ba) (.slice A1 m1 m1)).st2 (.bool bb) (.slice A2 m2 m2)
    have n0 := (((l0.drew.below hb1 (by simp)).below hb2 (by have := hb1.size; simp at this; omega)).far2 (g := w.heap.size) (by omega) (.bool ba) (.slice A1 m1 m1)).far2 (g := w.heap.size + 1) (by omega) (.bool bb) (.slice A2 m2 m2)
    have hb0 : Below w.heap.size w w2 := below_step (below_step ((((Below.refl _ _).alloc (Nat.le_refl _) _).alloc (by simp) _).alloc (by simp; omega) _).drew hb1 (by simp; omega)) hb2 (by have := hb1.size; simp at this; omega)
    have z1 : ∀ ad, A1 = some ad → w.heap.size + 3 ≤ ad.block := fun ad he => by have := (ho1.lt_ ad he).1; simp at this; omega
    have z2 : ∀ ad, A2 = some ad → w.heap.size + 3 ≤ ad.block := fun ad he => by have h1 := (ho2.lt_ ad he).1; have h2 := hb1.size; simp at h2; omega
    have x1 := ((ho1.below hb2).st2 (g := w.heap.size) (fun ad he => by have := z1 ad he; omega) (.bool ba) (.slice A1 m1 m1)).st2 (g := w.heap.size + 1) (fun ad he => by have := z1 ad he; omega) (.bool bb) (.slice A2 m2 m2)
    have x2 := (ho2.st2 (g := w.heap.size) (fun ad he => by have := z2 ad he; omega) (.bool ba) (.slice A1 m1 m1)).st2 (g := w.heap.size + 1) (fun ad he => by have := z2 ad he; omega) (.bool bb) (.slice A2 m2 m2)
    have y := below_st2 (below_st2 hb0 (Nat.le_refl _) (.bool ba) (.slice A1 m1 m1)) (g := w.heap.size + 1) (by omega) (.bool bb) (.slice A2 m2 m2)
    have zs : w.heap.size + 3 ≤ w2.heap.size := by have h1 := hb1.size; have h2 := hb2.size; simp at h1; omega
    generalize hw3 : ((((w2.setCell ⟨w.heap.size, 0, none⟩ (.bool ba)).setCell ⟨w.heap.size, 1, none⟩ (.slice A1 m1 m1)).setCell ⟨w.heap.size + 1, 0, none⟩ (.bool bb)).setCell ⟨w.heap.size + 1, 1, none⟩ (.slice A2 m2 m2)) = w3 at *
    have zs3 : w.heap.size + 3 ≤ w3.heap.size := by rw [← hw3]; simpa using zs
    clear hw3 zs hb0 ho1 ho2 r0 r1 q0 q1 k0 k1 c0 c1 c2 c3 d0 d1 d2 d3 e0 e1 e2 e3 f0 f1 f2 f3 pa pb l0
    have g0 := s0.c0
    have g1 := s0.c1
    have g2 := s1.c0
    have g3 := s1.c1
    have i0 := n0.c0
    have j0 := n0.c1
    have u0f := n0.frozen 0
    have v0f := n0.frozen 1
    by_cases hs : ba = bb
    · subst hs
      have hadd := fun w0 h0 h1 => add_any A1 A2 m1 m1 m2 m2 (lmb (vl l)) (lmb (vl k)) w0 h0 h1 (by omega) (by omega)
      simp only [vl_lmb] at hadd
      have hsum : zv na (vl l) + zv nb (vl k) = zv ba (vl l + vl k) := by
        rw [HA.out, HB.out]; cases ba <;> simp [zv] <;> omega
      obtain ⟨cc, hcc⟩ : ∃ cc, decide (zv ba (vl l + vl k) < 0) = cc := ⟨_, rfl⟩
      have hof := fun A4 m4 w0 h0 (hm4 : m4 ≤ 1099511627776) => of_any ba A4 m4 m4 (lmb (vl l + vl k)) w0 h0 hm4
      simp only [vl_lmb, hcc] at hof
      have HS := Lib.hid hsum
      have HC := Lib.hid hcc
      clear hsum hcc
      go_wp2_with fail
      go_region_held3 (fun w' => w'.cell? ⟨w.heap.size, 0, none⟩ = some (.bool ba) ∧ w'.cell? ⟨w.heap.size, 1, none⟩ = some (.slice A1 m1 m1) ∧ w'.cell? ⟨w.heap.size + 1, 1, none⟩ = some (.slice A2 m2 m2))
        (first
          | exact ⟨g0, g1, g3⟩
          | (have q0 := s0.drew.below hb4 s0.drew.lt; have q1 := s1.drew.below hb4 s1.drew.lt; exact ⟨q0.c0, q0.c1, q1.c1⟩)
          | (have q0 := s0.drew.below hb4 s0.drew.lt; have q1 := s1.drew.below hb4 s1.drew.lt; have p0 := q0.below hb5 q0.lt; have p1 := q1.below hb5 q1.lt; exact ⟨p0.c0, p0.c1, p1.c1⟩)
          | (have q0 := s0.drew.below hb4 s0.drew.lt; have q1 := s1.drew.below hb4 s1.drew.lt; have p0 := (q0.below hb5 q0.lt).far2 (g := w.heap.size + 1 + 1) (by omega) (.bool cc) (.slice A5 m5 m5); have p1 := (q1.below hb5 q1.lt).far2 (g := w.heap.size + 1 + 1) (by omega) (.bool cc) (.slice A5 m5 m5); exact ⟨p0.c0, p0.c1, p1.c1⟩))
        ((first
          | (go_at_call 29; refine (hadd _ x1.drew.ints x2.drew.ints).mono ?_; rintro e w4 ⟨A4, m4, rfl, hm4, ho4, hb4⟩)
          | (go_at_call 23; refine (hof A4 m4 _ ho4.ints (by omega)).mono ?_; rintro e w5 ⟨A5, m5, rfl, hm5, ho5, hb5⟩; have o1 := n0.drew.below hb4 n0.drew.lt; have o0 := o1.below hb5 o1.lt; have a0 := o0.c0; have a1 := o0.c1; have a2 := o0.frozen 0; have a3 := o0.frozen 1)))
      go_wp2_with fail
      refine bodyPost_ret (results_cell_row rfl _ _ (w.heap.size + 2) 24 #[.bool cc, .slice A5 m5 m5] (0, 0) _ rfl (o0.st2 _ _).is Tryd.underlying24 rfl (by kernel_rfl)) rfl ?_
      rw [HS.out, HC.out, zv_abs]
      have h4 := hb4.size
      simp at h4
      have b5 := below_step (below_step y.drew hb4 (by simp; omega)) hb5 (by omega)
      exact ⟨A5, m5, rfl, by omega, (ho5.st2 (ho5.far (by omega)) _ _).mono (by omega), below_st2 b5 (by omega) _ _⟩
    · by_cases hle : vl k ≤ vl l
      · have hsb := fun w0 h0 h1 => sub_any A1 A2 m1 m1 m2 m2 (lmb (vl l)) (lmb (vl k)) w0 h0 h1 (by omega) (by omega) (by rw [vl_lmb, vl_lmb]; exact hle)
        simp only [vl_lmb] at hsb
        have hsum : zv na (vl l) + zv nb (vl k) = zv ba (vl l - vl k) := by
          rw [HA.out, HB.out]
          cases ba <;> cases bb <;> first | exact absurd rfl hs | (simp [zv]; omega)
        obtain ⟨cc, hcc⟩ : ∃ cc, decide (zv ba (vl l - vl k) < 0) = cc := ⟨_, rfl⟩
        have hof := fun A4 m4 w0 h0 (hm4 : m4 ≤ 1099511627776) => of_any ba A4 m4 m4 (lmb (vl l - vl k)) w0 h0 hm4
        simp only [vl_lmb, hcc] at hof
        have HS := Lib.hid hsum
        have HC := Lib.hid hcc
        have hne : (ba == bb) = false := by simp; exact hs
        clear hsum hcc hs hle
        go_wp2_with fail
        refine (hsb _ x1.ints x2.ints).mono ?_; rintro e w4 ⟨A4, m4, rfl, hm4, ho4, hb4⟩
        have q0 := s0.below hb4 s0.lt
        have q1 := n0.below hb4 n0.lt
        have d0 := q0.c0
        have h4 := hb4.size
        go_wp2_with fail
        refine (hof A4 m4 _ ho4.ints (by omega)).mono ?_; rintro e w5 ⟨A5, m5, rfl, hm5, ho5, hb5⟩
        have o0 := q1.below hb5 q1.lt
        have b5 := below_step (below_step y hb4 (by omega)) hb5 (by omega)
        have a0 := o0.c0
        have a1 := o0.c1
        have a2 := o0.frozen 0
        have a3 := o0.frozen 1
        go_wp2_with fail
        refine bodyPost_ret (results_cell_row rfl _ _ (w.heap.size + 2) 24 #[.bool cc, .slice A5 m5 m5] (0, 0) _ rfl (o0.st2 _ _).is Tryd.underlying24 rfl (by kernel_rfl)) rfl ?_
        rw [HS.out, HC.out, zv_abs]
        exact ⟨A5, m5, rfl, by omega, (ho5.st2 (ho5.far (by omega)) _ _).mono (by omega), below_st2 b5 (by omega) _ _⟩
      · have hsl := fun w0 h0 h1 => sub_less A1 A2 m1 m1 m2 m2 (lmb (vl l)) (lmb (vl k)) w0 h0 h1 (by omega) (by omega) (by rw [vl_lmb, vl_lmb]; omega)
        have hsb := fun w0 h0 h1 => sub_any A2 A1 m2 m2 m1 m1 (lmb (vl k)) (lmb (vl l)) w0 h0 h1 (by omega) (by omega) (by rw [vl_lmb, vl_lmb]; omega)
        simp only [vl_lmb] at hsb
        have hsum : zv na (vl l) + zv nb (vl k) = zv bb (vl k - vl l) := by
          rw [HA.out, HB.out]
          cases ba <;> cases bb <;> first | exact absurd rfl hs | (simp [zv]; omega)
        obtain ⟨cc, hcc⟩ : ∃ cc, decide (zv bb (vl k - vl l) < 0) = cc := ⟨_, rfl⟩
        have hof := fun A4 m4 w0 h0 (hm4 : m4 ≤ 1099511627776) => of_any bb A4 m4 m4 (lmb (vl k - vl l)) w0 h0 hm4
        simp only [vl_lmb, hcc] at hof
        have HS := Lib.hid hsum
        have HC := Lib.hid hcc
        have hne : (ba == bb) = false := by simp; exact hs
        clear hsum hcc hs hle
        go_wp2_with fail
        refine (hsl _ x1.ints x2.ints).mono ?_; rintro e w4 ⟨rfl, hb4⟩
        have q0 := s0.below hb4 s0.lt
        have q1 := n0.below hb4 n0.lt
        have q2 := s1.below hb4 s1.lt
        have d1 := q0.c1
        have d2 := q2.c0
        have d3 := q2.c1
        have h4 := hb4.size
        go_wp2_with fail
        refine (hsb _ (x2.below hb4).ints (x1.below hb4).ints).mono ?_; rintro e w6 ⟨A4, m4, rfl, hm4, ho4, hb6⟩
        have r1 := q1.below hb6 q1.lt
        have r2 := q2.below hb6 q2.lt
        have e2 := r2.c0
        have h6 := hb6.size
        go_wp2_with fail
        refine (hof A4 m4 _ ho4.ints (by omega)).mono ?_; rintro e w5 ⟨A5, m5, rfl, hm5, ho5, hb5⟩
        have o0 := r1.below hb5 r1.lt
        have b5 := below_step (below_step (below_step y hb4 (by omega)) hb6 (by omega)) hb5 (by omega)
        have a0 := o0.c0
        have a1 := o0.c1
        have a2 := o0.frozen 0
        have a3 := o0.frozen 1
        go_wp2_with fail
        refine bodyPost_ret (results_cell_row rfl _ _ (w.heap.size + 2) 24 #[.bool cc, .slice A5 m5 m5] (0, 0) _ rfl (o0.st2 _ _).is Tryd.underlying24 rfl (by kernel_rfl)) rfl ?_
        rw [HS.out, HC.out, zv_abs]
        exact ⟨A5, m5, rfl, by omega, (ho5.st2 (ho5.far (by omega)) _ _).mono (by omega), below_st2 b5 (by omega) _ _⟩
end Go.Proofs.YticjhlbmdjijnaaDoor

/- The contracts of package whole: Sub, Mul. No condition but the reach of a slice. -/
namespace Go.Proofs.YticjhlbmdjijnaaDoor
open Go.RowKit

set_option maxRecDepth 100000 in
set_option maxHeartbeats 1600000 in
theorem wsub_any (na nb : Bool) (A B : Option Addr) (n c m d : Nat) (l k : List Nat) (w : World) (ha : Lim w A n c l) (hb : Lim w B m d k) (hn : n ≤ 268435456) (hm : m ≤ 268435456) :
    Calls Tryd.prog 25 #[.agg #[.bool na, .slice A n c], .agg #[.bool nb, .slice B m d]] w fun e w' => ∃ A2 q, e = .returned (.agg #[.bool (decide (zv na (vl l) - zv nb (vl k) < 0)), .slice A2 q q]) ∧ q ≤ max n m + 1 ∧ OwnL w' w.heap.size A2 q q (lmb (zv na (vl l) - zv nb (vl k)).natAbs) ∧ Below w.heap.size w w' := by
  have HZ : Hid (zv (decide (- zv nb (vl k) < 0)) (vl k) = - zv nb (vl k)) := by
    show _ = _
    have := zv_of (- zv nb (vl k))
    rwa [Int.natAbs_neg, zv_abs] at this
  obtain ⟨cc, hcc⟩ : ∃ cc, decide (zv na (vl l) - zv nb (vl k) < 0) = cc := ⟨_, rfl⟩
  have pn := fun w0 h0 => not_any nb B m d k w0 h0 (by omega)
  have pa := fun A4 m4 w0 h0 (h1 : Lim w0 A4 m4 m4 (lmb (vl k))) (hm4 : m4 ≤ 268435456) => wadd_any na (decide (- zv nb (vl k) < 0)) A A4 n c m4 m4 l (lmb (vl k)) w0 h0 h1 hn hm4
  simp only [vl_lmb, HZ.out, ← Int.sub_eq_add_neg, hcc] at pa
  have HC := Lib.hid hcc
  generalize decide (- zv nb (vl k) < 0) = nn at *
  clear hcc HZ
  go_enter Tryd.func25, Tryd.ntmps25
  go_wp2_with fail
  have k0 : Blk (((w.alloc (.cells #[.bool na, .slice A n c] 24)).alloc (.cells #[.bool nb, .slice B m d] 24)).alloc (.cells #[.bool false, .slice none 0 0] 24)) w.heap.size 24 #[.bool na, .slice A n c] := ((Blk.new w _ _).alloc _).alloc _
  have k1 : Blk (((w.alloc (.cells #[.bool na, .slice A n c] 24)).alloc (.cells #[.bool nb, .slice B m d] 24)).alloc (.cells #[.bool false, .slice none 0 0] 24)) (w.heap.size + 1) 24 #[.bool nb, .slice B m d] := Blk.alloc (Blk.new_at _ _ _ (by simp)) _
  have l0 : Blk (((w.alloc (.cells #[.bool na, .slice A n c] 24)).alloc (.cells #[.bool nb, .slice B m d] 24)).alloc (.cells #[.bool false, .slice none 0 0] 24)) (w.heap.size + 2) 24 #[.bool false, .slice none 0 0] := Blk.new_at _ _ _ (by simp)
  have xa : Lim (((w.alloc (.cells #[.bool na, .slice A n c] 24)).alloc (.cells #[.bool nb, .slice B m d] 24)).alloc (.cells #[.bool false, .slice none 0 0] 24)) A n c l := ((ha.alloc _).alloc _).alloc _
  have xb : Lim (((w.alloc (.cells #[.bool na, .slice A n c] 24)).alloc (.cells #[.bool nb, .slice B m d] 24)).alloc (.cells #[.bool false, .slice none 0 0] 24)) B m d k := ((hb.alloc _).alloc _).alloc _
  have y : Below w.heap.size w (((w.alloc (.cells #[.bool na, .slice A n c] 24)).alloc (.cells #[.bool nb, .slice B m d] 24)).alloc (.cells #[.bool false, .slice none 0 0] 24)) := (((Below.refl _ _).alloc (Nat.le_refl _) _).alloc (by simp) _).alloc (by simp; omega) _
  have ys : w.heap.size + 3 ≤ (((w.alloc (.cells #[.bool na, .slice A n c] 24)).alloc (.cells #[.bool nb, .slice B m d] 24)).alloc (.cells #[.bool false, .slice none 0 0] 24)).heap.size := by simp
  generalize hW : (((w.alloc (.cells #[.bool na, .slice A n c] 24)).alloc (.cells #[.bool nb, .slice B m d] 24)).alloc (.cells #[.bool false, .slice none 0 0] 24)) = w0 at *
  clear hW
  have c0 := k0.c0
  have c1 := k0.c1
  have c2 := k1.c0
  have c3 := k1.c1
  go_region_held3 (fun w' => w'.cell? ⟨w.heap.size, 0, none⟩ = some (.bool na) ∧ w'.cell? ⟨w.heap.size, 1, none⟩ = some (.slice A n c) ∧ w'.cell? ⟨w.heap.size + 1, 0, none⟩ = some (.bool nb) ∧ w'.cell? ⟨w.heap.size + 1, 1, none⟩ = some (.slice B m d))
    (first
      | exact ⟨c0, c1, c2, c3⟩
      | (have q0 := k0.drew.below hb4 k0.drew.lt; have q1 := k1.drew.below hb4 k1.drew.lt; exact ⟨q0.c0, q0.c1, q1.c0, q1.c1⟩)
      | (have q0 := k0.drew.below hb4 k0.drew.lt; have q1 := k1.drew.below hb4 k1.drew.lt; have p0 := q0.below hb5 q0.lt; have p1 := q1.below hb5 q1.lt; exact ⟨p0.c0, p0.c1, p1.c0, p1.c1⟩)
      | (have q0 := k0.drew.below hb4 k0.drew.lt; have q1 := k1.drew.below hb4 k1.drew.lt; have p0 := (q0.below hb5 q0.lt).far2 (g := w.heap.size + 1 + 1) (by omega) (.bool cc) (.slice A5 m5 m5); have p1 := (q1.below hb5 q1.lt).far2 (g := w.heap.size + 1 + 1) (by omega) (.bool cc) (.slice A5 m5 m5); exact ⟨p0.c0, p0.c1, p1.c0, p1.c1⟩))
    ((first
      | (go_at_call 42; refine (pn _ xb.drew).mono ?_; rintro e w4 ⟨A4, m4, rfl, hm4, ho4, hb4⟩)
      | (go_at_call 13; refine (pa A4 m4 _ (xa.drew.below hb4) ho4.ints (by omega)).mono ?_; rintro e w5 ⟨A5, m5, rfl, hm5, ho5, hb5⟩; have o1 := l0.drew.below hb4 l0.drew.lt; have o0 := o1.below hb5 o1.lt; have a0 := o0.c0; have a1 := o0.c1; have a2 := o0.frozen 0; have a3 := o0.frozen 1)))
  go_wp2_with fail
  refine bodyPost_ret (results_cell_row rfl _ _ (w.heap.size + 2) 24 #[.bool cc, .slice A5 m5 m5] (0, 0) _ rfl (o0.st2 _ _).is Tryd.underlying24 rfl (by kernel_rfl)) rfl ?_
  have h4 := hb4.size
  have h5 : w0.heap.size ≤ w4.heap.size := h4
  have b5 := below_step (below_step y.drew hb4 (by show w.heap.size ≤ w0.heap.size; omega)) hb5 (by omega)
  rw [HC.out]
  exact ⟨A5, m5, rfl, by omega, (ho5.st2 (ho5.far (by omega)) _ _).mono (by omega), below_st2 b5 (by omega) _ _⟩

set_option maxRecDepth 100000 in
set_option maxHeartbeats 1600000 in
theorem wmul_any (na nb : Bool) (A B : Option Addr) (n c m d : Nat) (l k : List Nat) (w : World) (ha : Lim w A n c l) (hb : Lim w B m d k) (hn : n ≤ 268435456) (hm : m ≤ 268435456) :
    Calls Tryd.prog 14 #[.agg #[.bool na, .slice A n c], .agg #[.bool nb, .slice B m d]] w fun e w' => ∃ A2 q, e = .returned (.agg #[.bool (decide (zv na (vl l) * zv nb (vl k) < 0)), .slice A2 q q]) ∧ q ≤ n + m ∧ OwnL w' w.heap.size A2 q q (lmb (zv na (vl l) * zv nb (vl k)).natAbs) ∧ Below w.heap.size w w' := by
  obtain ⟨cc, hcc⟩ : ∃ cc, decide (zv na (vl l) * zv nb (vl k) < 0) = cc := ⟨_, rfl⟩
  have HAB : Hid ((zv na (vl l) * zv nb (vl k)).natAbs = vl l * vl k) := by
    show _ = _
    rw [← zv_mul, zv_abs]
  have pm := fun w0 h0 h1 => mul_any A B n c m d l k w0 h0 h1 (by omega) (by omega)
  have pf := fun A4 m4 w0 h0 (hm4 : m4 ≤ 1099511627776) => of_any (na != nb) A4 m4 m4 (lmb (vl l * vl k)) w0 h0 hm4
  simp only [vl_lmb, zv_mul, hcc] at pf
  have HC := Lib.hid hcc
  clear hcc
  go_enter Tryd.func14, Tryd.ntmps14
  go_wp2_with fail
  have k0 : Blk (((w.alloc (.cells #[.bool na, .slice A n c] 24)).alloc (.cells #[.bool nb, .slice B m d] 24)).alloc (.cells #[.bool false, .slice none 0 0] 24)) w.heap.size 24 #[.bool na, .slice A n c] := ((Blk.new w _ _).alloc _).alloc _
  have k1 : Blk (((w.alloc (.cells #[.bool na, .slice A n c] 24)).alloc (.cells #[.bool nb, .slice B m d] 24)).alloc (.cells #[.bool false, .slice none 0 0] 24)) (w.heap.size + 1) 24 #[.bool nb, .slice B m d] := Blk.alloc (Blk.new_at _ _ _ (by simp)) _
  have l0 : Blk (((w.alloc (.cells #[.bool na, .slice A n c] 24)).alloc (.cells #[.bool nb, .slice B m d] 24)).alloc (.cells #[.bool false, .slice none 0 0] 24)) (w.heap.size + 2) 24 #[.bool false, .slice none 0 0] := Blk.new_at _ _ _ (by simp)
  have xa : Lim (((w.alloc (.cells #[.bool na, .slice A n c] 24)).alloc (.cells #[.bool nb, .slice B m d] 24)).alloc (.cells #[.bool false, .slice none 0 0] 24)) A n c l := ((ha.alloc _).alloc _).alloc _
  have xb : Lim (((w.alloc (.cells #[.bool na, .slice A n c] 24)).alloc (.cells #[.bool nb, .slice B m d] 24)).alloc (.cells #[.bool false, .slice none 0 0] 24)) B m d k := ((hb.alloc _).alloc _).alloc _
  have y : Below w.heap.size w (((w.alloc (.cells #[.bool na, .slice A n c] 24)).alloc (.cells #[.bool nb, .slice B m d] 24)).alloc (.cells #[.bool false, .slice none 0 0] 24)) := (((Below.refl _ _).alloc (Nat.le_refl _) _).alloc (by simp) _).alloc (by simp; omega) _
  have ys : w.heap.size + 3 ≤ (((w.alloc (.cells #[.bool na, .slice A n c] 24)).alloc (.cells #[.bool nb, .slice B m d] 24)).alloc (.cells #[.bool false, .slice none 0 0] 24)).heap.size := by simp
  generalize hW : (((w.alloc (.cells #[.bool na, .slice A n c] 24)).alloc (.cells #[.bool nb, .slice B m d] 24)).alloc (.cells #[.bool false, .slice none 0 0] 24)) = w0 at *
  clear hW
  have c0 := k0.c0
  have c1 := k0.c1
  have c2 := k1.c0
  have c3 := k1.c1
  go_region_held3 (fun w' => w'.cell? ⟨w.heap.size, 0, none⟩ = some (.bool na) ∧ w'.cell? ⟨w.heap.size, 1, none⟩ = some (.slice A n c) ∧ w'.cell? ⟨w.heap.size + 1, 0, none⟩ = some (.bool nb) ∧ w'.cell? ⟨w.heap.size + 1, 1, none⟩ = some (.slice B m d))
    (first
      | exact ⟨c0, c1, c2, c3⟩
      | (have q0 := k0.drew.below hb4 k0.drew.lt; have q1 := k1.drew.below hb4 k1.drew.lt; exact ⟨q0.c0, q0.c1, q1.c0, q1.c1⟩)
      | (have q0 := k0.drew.below hb4 k0.drew.lt; have q1 := k1.drew.below hb4 k1.drew.lt; have p0 := q0.below hb5 q0.lt; have p1 := q1.below hb5 q1.lt; exact ⟨p0.c0, p0.c1, p1.c0, p1.c1⟩)
      | (have q0 := k0.drew.below hb4 k0.drew.lt; have q1 := k1.drew.below hb4 k1.drew.lt; have p0 := (q0.below hb5 q0.lt).far2 (g := w.heap.size + 1 + 1) (by omega) (.bool cc) (.slice A5 m5 m5); have p1 := (q1.below hb5 q1.lt).far2 (g := w.heap.size + 1 + 1) (by omega) (.bool cc) (.slice A5 m5 m5); exact ⟨p0.c0, p0.c1, p1.c0, p1.c1⟩))
    ((first
      | (go_at_call 31; refine (pm _ xa.drew xb.drew).mono ?_; rintro e w4 ⟨A4, m4, rfl, hm4, ho4, hb4⟩)
      | (go_at_call 23; refine (pf A4 m4 _ ho4.ints (by omega)).mono ?_; rintro e w5 ⟨A5, m5, rfl, hm5, ho5, hb5⟩; have o1 := l0.drew.below hb4 l0.drew.lt; have o0 := o1.below hb5 o1.lt; have a0 := o0.c0; have a1 := o0.c1; have a2 := o0.frozen 0; have a3 := o0.frozen 1)))
  go_wp2_with fail
  refine bodyPost_ret (results_cell_row rfl _ _ (w.heap.size + 2) 24 #[.bool cc, .slice A5 m5 m5] (0, 0) _ rfl (o0.st2 _ _).is Tryd.underlying24 rfl (by kernel_rfl)) rfl ?_
  have h4 := hb4.size
  have h5 : w0.heap.size ≤ w4.heap.size := h4
  have b5 := below_step (below_step y.drew hb4 (by show w.heap.size ≤ w0.heap.size; omega)) hb5 (by omega)
  rw [HC.out, HAB.out]
  exact ⟨A5, m5, rfl, by omega, (ho5.st2 (ho5.far (by omega)) _ _).mono (by omega), below_st2 b5 (by omega) _ _⟩

end Go.Proofs.YticjhlbmdjijnaaDoor

/- The contracts of package whole: Of. No condition. -/
namespace Go.Proofs.YticjhlbmdjijnaaDoor
open Go.RowKit

theorem vl_two (a b : Nat) : vl [a, b] = a + 4294967296 * b := by simp [vl, Num.val]

set_option maxRecDepth 100000 in
set_option maxHeartbeats 800000 in
theorem wof_any (z : Int) (w : World) (h1 : -9223372036854775808 ≤ z) (h2 : z ≤ 9223372036854775807) :
    Calls Tryd.prog 8 #[.int .i64 z] w fun e w' => ∃ A2 q, e = .returned (.agg #[.bool (decide (z < 0)), .slice A2 q q]) ∧ q ≤ 2 ∧ OwnL w' w.heap.size A2 q q (lmb z.natAbs) ∧ Below w.heap.size w w' := by
  obtain ⟨v, hv⟩ : ∃ v, z.natAbs = v := ⟨_, rfl⟩
  obtain ⟨lo, hlo⟩ : ∃ lo, v % 4294967296 = lo := ⟨_, rfl⟩
  obtain ⟨hi, hhi⟩ : ∃ hi, v / 4294967296 = hi := ⟨_, rfl⟩
  have hvl : vl [lo, hi] = v := by rw [vl_two]; omega
  have hl : lo < 4294967296 := by omega
  have hh : hi < 4294967296 := by omega
  have pf := fun bb g w0 (h0 : Lim w0 (some ⟨g, 0, none⟩) 2 2 [lo, hi]) => of_any bb (some ⟨g, 0, none⟩) 2 2 [lo, hi] w0 h0 (by omega)
  simp only [hvl] at pf
  rw [hv]
  by_cases hz : z < 0
  · have hd : decide (zv true v < 0) = decide (z < 0) := by rw [zv_true]; congr 1; apply propext; omega
    have pf1 := pf true
    rw [hd, decide_eq_true hz] at pf1
    rw [decide_eq_true hz]
    clear pf
    obtain ⟨u, hu⟩ : ∃ u : Nat, z % 18446744073709551616 = (u : Int) := ⟨(z % 18446744073709551616).toNat, by omega⟩
    have huv : u + v = 18446744073709551616 := by omega
    have hneg : (-(u : Int)) % 18446744073709551616 = (v : Int) := by omega
    have r1 : (v : Int) % 4294967296 = (lo : Int) := by omega
    have r2 : (v : Int) / 4294967296 = (hi : Int) := by omega
    have hvb : v ≤ 9223372036854775808 := by omega
    have w1 : IntKind.u64.wrap z = (u : Int) := by rw [IntKind.wrap_u64]; exact hu
    have w2 : IntKind.u64.wrap (-(u : Int)) = (v : Int) := by rw [IntKind.wrap_u64]; exact hneg
    have r3 : (hi : Int) % 4294967296 = (hi : Int) := by omega
    have hzi : z < 0 := hz
    clear hv hlo hhi hd hvl hneg hu
    go_enter Tryd.func8, Tryd.ntmps8
    go_wp2_with fail
    refine (pf1 _ _ (Ints.lit (w := w.alloc (.cells #[.bool false, .slice none 0 0] 24)) .u32 4294967296 43 (fr := (0, 0)) (n := 2) [lo, hi] (by simp) rfl rfl (by intro x hx; simp at hx; omega))).mono ?_
    rintro e w5 ⟨A5, m5, rfl, hm5, ho5, hb5⟩
    have o0 := ((Blk.new w 24 #[.bool false, .slice none 0 0]).alloc _).below hb5 (by simp; omega)
    have a0 := o0.c0
    have a1 := o0.c1
    have a2 := o0.frozen 0
    have a3 := o0.frozen 1
    have b5 := below_step (((Below.refl w.heap.size w).alloc (Nat.le_refl _) _).alloc (by simp) _) hb5 (by simp; omega)
    go_wp2_with fail
    refine bodyPost_ret (results_cell_row rfl _ _ w.heap.size 24 #[.bool true, .slice A5 m5 m5] (0, 0) _ rfl (o0.st2 _ _).is Tryd.underlying24 rfl (by kernel_rfl)) rfl ?_
    exact ⟨A5, m5, rfl, hm5, (ho5.st2 (ho5.far (by simp; omega)) _ _).mono (by simp; omega), below_st2 b5 (by omega) _ _⟩
  · have hd : decide (zv false v < 0) = decide (z < 0) := by rw [zv_false]; congr 1; apply propext; omega
    have pf1 := pf false
    rw [hd, decide_eq_false hz] at pf1
    rw [decide_eq_false hz]
    clear pf
    have hzv : z = (v : Int) := by omega
    subst hzv
    have w1 : IntKind.u64.wrap (v : Int) = (v : Int) := by rw [IntKind.wrap_u64]; omega
    have r1 : (v : Int) % 4294967296 = (lo : Int) := by omega
    have r2 : (v : Int) / 4294967296 = (hi : Int) := by omega
    have r3 : (hi : Int) % 4294967296 = (hi : Int) := by omega
    clear hv hlo hhi hd hvl
    go_enter Tryd.func8, Tryd.ntmps8
    go_wp2_with fail
    refine (pf1 _ _ (Ints.lit (w := w.alloc (.cells #[.bool false, .slice none 0 0] 24)) .u32 4294967296 43 (fr := (0, 0)) (n := 2) [lo, hi] (by simp) rfl rfl (by intro x hx; simp at hx; omega))).mono ?_
    rintro e w5 ⟨A5, m5, rfl, hm5, ho5, hb5⟩
    have o0 := ((Blk.new w 24 #[.bool false, .slice none 0 0]).alloc _).below hb5 (by simp; omega)
    have a0 := o0.c0
    have a1 := o0.c1
    have a2 := o0.frozen 0
    have a3 := o0.frozen 1
    have b5 := below_step (((Below.refl w.heap.size w).alloc (Nat.le_refl _) _).alloc (by simp) _) hb5 (by simp; omega)
    go_wp2_with fail
    refine bodyPost_ret (results_cell_row rfl _ _ w.heap.size 24 #[.bool false, .slice A5 m5 m5] (0, 0) _ rfl (o0.st2 _ _).is Tryd.underlying24 rfl (by kernel_rfl)) rfl ?_
    exact ⟨A5, m5, rfl, hm5, (ho5.st2 (ho5.far (by simp; omega)) _ _).mono (by simp; omega), below_st2 b5 (by omega) _ _⟩
end Go.Proofs.YticjhlbmdjijnaaDoor

/- A region that draws its order: loads may be taken ahead of all, of cells that only operations write which wait for them. No condition. -/
namespace Go.Proofs.YticjhlbmdjijnaaDoor
open Go

section
variable {P : Program} {ops : Array Oper} {Q : Exit → Act → World → Prop} {md : Region.Mode} {S : World → Prop} {D : List Nat}

/-- Number 'j' waits for number 'i', it may be by others. -/
def waits (md : Region.Mode) (ops : Array Oper) (i : Nat) : Nat → Nat → Bool
  | 0, _ => false
  | f + 1, j => ((ops[j]?).map (fun o => o.after.any fun e => Region.binds md e && (e.on == i || waits md ops i f e.on))).getD false

/-- Of what is listed all is listed that it waits for. -/
def shutUp (md : Region.Mode) (ops : Array Oper) (listed : Array Bool) : Bool :=
  (List.range ops.size).all fun j => !listed.getD j false || ((ops[j]?).map (fun o => o.after.all fun e => !Region.binds md e || listed.getD e.on false)).getD true

structure Shutt (md : Region.Mode) (ops : Array Oper) (listed : Array Bool) : Prop where
  out : ∀ j o, ops[j]? = some o → listed.getD j false = true → ∀ e ∈ o.after, Region.binds md e = true → listed.getD e.on false = true

theorem shutt_of {listed : Array Bool} (h : shutUp md ops listed = true) : Shutt md ops listed := by
  refine ⟨fun j o ho hj e he hb => ?_⟩
  unfold shutUp at h
  rw [List.all_eq_true] at h
  have hlt : j < ops.size := (Array.getElem?_eq_some_iff.1 ho).1
  have h1 := h j (List.mem_range.2 hlt)
  rw [ho, hj] at h1
  simp only [Bool.not_true, Option.map_some, Option.getD_some, Bool.false_or, Array.all_eq_true_iff_forall_mem, Bool.or_eq_true, Bool.not_eq_true'] at h1
  rcases h1 e he with h2 | h2
  · rw [hb] at h2; cases h2
  · exact h2

theorem Shutt.set {listed : Array Bool} {j : Nat} (h : Shutt md ops listed) (hj : j ∈ Region.ready md ops listed) : Shutt md ops (listed.setIfInBounds j true) := by
  obtain ⟨h0, o, ho, hall⟩ := mem_ready.1 hj
  refine ⟨fun k ok hok hk e he hb => ?_⟩
  by_cases hjk : j = k
  · subst hjk
    rw [ho] at hok
    cases hok
    exact getD_set_true (hall e he hb)
  · rw [getD_set_ne false hjk] at hk
    exact getD_set_true (h.out k ok hok hk e he hb)

theorem waits_listed {listed : Array Bool} (h : Shutt md ops listed) {i : Nat} : ∀ (f j : Nat), (∀ o, ops[j]? = some o → ∀ e ∈ o.after, Region.binds md e = true → listed.getD e.on false = true) → waits md ops i f j = true → listed.getD i false = true
  | 0, _, _, hw => by simp [waits] at hw
  | f + 1, j, hj, hw => by
    unfold waits at hw
    cases ho : ops[j]? with
    | none => rw [ho] at hw; simp at hw
    | some o =>
      rw [ho] at hw
      simp only [Option.map_some, Option.getD_some, Array.any_eq_true] at hw
      obtain ⟨n, hn, hw⟩ := hw
      simp only [Bool.and_eq_true, Bool.or_eq_true, beq_iff_eq] at hw
      obtain ⟨hb, hw⟩ := hw
      have he := hj o ho _ (Array.getElem_mem hn) hb
      rcases hw with hw | hw
      · rw [← hw]; exact he
      · exact waits_listed h f _ (fun o' ho' e he' hb' => h.out _ o' ho' he e he' hb') hw

theorem not_waiting {listed : Array Bool} (h : Shutt md ops listed) {i j f : Nat} (hi : i ∈ Region.ready md ops listed) (hj : j ∈ Region.ready md ops listed) : ¬ waits md ops i f j = true := by
  intro hw
  obtain ⟨_, o, ho, hall⟩ := mem_ready.1 hj
  have := waits_listed h f j (fun o' ho' e he hb => by rw [ho] at ho'; cases ho'; exact hall e he hb) hw
  have h0 := (mem_ready.1 hi).1
  rcases Nat.lt_or_ge i listed.size with h' | h'
  · simp [h'] at h0 this; rw [h0] at this; cases this
  · simp [Array.getElem?_eq_none h'] at this

/-- Whatever order is picked from here on, and 'S' holds behind every operation that is carried out, but for those of 'D'. -/
def wpAnyL (P : Program) (md : Region.Mode) (ops : Array Oper) (Q : Exit → Act → World → Prop) (D : List Nat) (S : World → Prop) : Nat → Array Bool → Act → World → Prop
  | 0, listed, a, w => Region.ready md ops listed = [] ∧ Q .normal a w
  | fuel + 1, listed, a, w =>
    (Region.ready md ops listed = [] → Q .normal a w) ∧
    ∀ i ∈ Region.ready md ops listed, wpOp P ops Q i (fun a' w' => (i ∉ D → S w') ∧ wpAnyL P md ops Q D S fuel (listed.setIfInBounds i true) a' w') a w

theorem wpAny_of_late : ∀ (fuel : Nat) (listed : Array Bool) (a : Act) (w : World), wpAnyL P md ops Q D S fuel listed a w → wpAny P md ops Q fuel listed a w
  | 0, _, _, _, h => h
  | fuel + 1, _, _, _, h => ⟨h.1, fun i hi => wpOp_mono (fun a' w' h' => wpAny_of_late fuel _ a' w' h'.2) (h.2 i hi)⟩

theorem wpAnyL_first {i : Nat} {oi : Oper} {v : Value} {f : Nat} (hi : ops[i]? = some oi) (hsel : ∀ (j : Nat) (o : Oper) cs b, ops[j]? = some o → o.op ≠ .select cs b)
    (hQ : ∀ c a w, Q (.panic c) (a.put oi.dst v) w → Q (.panic c) a w) (hD : ∀ j ∈ D, waits md ops i f j = true) :
    ∀ (fuel : Nat) (listed : Array Bool) (a : Act) (w : World),
      (∀ j oj, ops[j]? = some oj → j ≠ i → listed.getD j true = false → (∀ e ∈ oj.after, Region.binds md e = true → e.on ≠ i) → oi.apart ops oj = true) →
      Shutt md ops listed → i ∈ Region.ready md ops listed → YieldsIf P ops S oi v a → S w →
      wpAnyL P md ops Q D S fuel (listed.setIfInBounds i true) (a.put oi.dst v) w → wpAnyL P md ops Q D S (fuel + 1) listed a w := by
  intro fuel
  induction fuel with
  | zero =>
    intro listed a w _ hc hr hy hS H
    refine ⟨fun h => (by rw [h] at hr; cases hr), fun j hj => ?_⟩
    by_cases hji : j = i
    · subst hji; exact hy.wpOp hi hS ⟨fun _ => hS, H⟩
    · have := ready_mono hj hji
      rw [H.1] at this
      cases this
  | succ fuel ih =>
    intro listed a w hfree hc hr hy hS H
    refine ⟨fun h => (by rw [h] at hr; cases hr), fun j hj => ?_⟩
    by_cases hji : j = i
    · subst hji; exact hy.wpOp hi hS ⟨fun _ => hS, H⟩
    · have hjD : j ∉ D := fun hm => not_waiting hc hr hj (hD j hm)
      have h1 := H.2 j (ready_mono hj hji)
      obtain ⟨hjun, oj, hoj, hall⟩ := mem_ready.1 hj
      have hnot : ∀ e ∈ oj.after, Region.binds md e = true → e.on ≠ i := fun e he hb heq => by
        have h1 := hall e he hb
        have h0 := (mem_ready.1 hr).1
        rw [heq] at h1
        rcases Nat.lt_or_ge i listed.size with h' | h'
        · simp [h'] at h0 h1; rw [h0] at h1; cases h1
        · simp [Array.getElem?_eq_none h'] at h1
      have h2 := wpOp_putIf hoj (hfree j oj hoj hji hjun hnot) (fun cs b => hsel i oi cs b hi) (fun cs b => hsel j oj cs b hoj) hQ hy h1
      have hfree' : ∀ k ok, ops[k]? = some ok → k ≠ i → (listed.setIfInBounds j true).getD k true = false →
          (∀ e ∈ ok.after, Region.binds md e = true → e.on ≠ i) → oi.apart ops ok = true := fun k ok hk hki hun hno => by
        refine hfree k ok hk hki ?_ hno
        by_cases hjk : j = k
        · subst hjk; exact hjun
        · rw [getD_set_ne true hjk] at hun; exact hun
      refine wpOp_mono (fun a' w' h3 => ⟨h3.2.1, ih (listed.setIfInBounds j true) a' w' hfree' (hc.set hj) (ready_mono hr (Ne.symm hji)) h3.1 (h3.2.1 hjD) ?_⟩) h2
      rw [Array.setIfInBounds_comm _ _ hji]
      exact h3.2.2

/-- Take number 'i' first. -/
theorem wpAnyL_take {i : Nat} {oi : Oper} {v : Value} {fuel : Nat} {listed : Array Bool} {a : Act} {w : World} (hi : ops[i]? = some oi)
    (hs : Region.noSelect ops = true) (hf : Region.free md ops listed i = true) (hr : (Region.ready md ops listed).contains i = true) (hc : shutUp md ops listed = true) (hD : D.all (waits md ops i ops.size) = true)
    (hQ : ∀ c a w, Q (.panic c) (a.put oi.dst v) w → Q (.panic c) a w) (hy : YieldsIf P ops S oi v a) (hS : S w)
    (h : wpAnyL P md ops Q D S fuel (listed.setIfInBounds i true) (a.put oi.dst v) w) : wpAnyL P md ops Q D S (fuel + 1) listed a w :=
  wpAnyL_first hi (Region.noSelect_spec hs) hQ (fun j hj => List.all_eq_true.1 hD j hj) fuel listed a w (Region.free_spec hi hf) (shutt_of hc) (by simpa using hr) hy hS h

/-- The one that may come up. -/
theorem wpAnyL_one {i : Nat} {o : Oper} {fuel : Nat} {listed : Array Bool} {a : Act} {w : World} (hr : Region.ready md ops listed = [i]) (ho : ops[i]? = some o)
    (h : ∀ K' : Act → World → Prop, Shut (∀ a w, (i ∉ D → S w) → wpAnyL P md ops Q D S fuel (listed.setIfInBounds i true) a w → K' a w) → if Region.wanted o (yielded ops a.tmps) = true then Oper.wp P o a w K' Q else K' (a.put o.dst undef) w) :
    wpAnyL P md ops Q D S (fuel + 1) listed a w :=
  ⟨fun h0 => (by rw [hr] at h0; cases h0), fun j hj => by
    rw [hr] at hj
    simp only [List.mem_singleton] at hj
    subst hj
    exact wpOp_step ho (fun K' hK => h K' (fun a w hS hW => hK a w ⟨hS, hW⟩))⟩

/-- All have come up. -/
theorem wpAnyL_done {listed : Array Bool} {a : Act} {w : World} (hr : Region.ready md ops listed = []) (h : Q .normal a w) :
    ∀ fuel, wpAnyL P md ops Q D S fuel listed a w
  | 0 => ⟨hr, h⟩
  | _ + 1 => ⟨fun _ => h, by rw [hr]; simp⟩

/-- The beginning. -/
theorem wp_region_late {id : Nat} {a : Act} {w : World} (D : List Nat) (S : World → Prop) (hm : P.follows .mixedOrders = true)
    (h : wpAnyL P .any ops Q D S ops.size (Array.replicate ops.size false) a w.drew) : (Code.region id ops true).wp P Q a w :=
  wp_region_any hm (wpAny_of_late _ _ _ _ h)
end
end Go.Proofs.YticjhlbmdjijnaaDoor

/- The contract of package whole: Div. No condition but the reach of a slice. -/
namespace Go.Proofs.YticjhlbmdjijnaaDoor
open Go.RowKit

theorem wdiv_parts (na nb ba bb : Bool) (x y u v : Nat) (ha : decide (zv na x < 0) = ba) (hb : decide (zv nb y < 0) = bb) (hu : x / y = u) (hv : x % y = v) :
    (¬ (0 < v ∧ ba ≠ bb) → wdiv (zv na x) (zv nb y) = zv (ba != bb) u ∧ wmod (zv na x) (zv nb y) = zv ba v) ∧
      ((0 < v ∧ ba ≠ bb) → wdiv (zv na x) (zv nb y) = zv (ba != bb) u - 1 ∧ wmod (zv na x) (zv nb y) = zv ba v + zv nb y) := by
  rw [wmod_of]
  unfold wdiv
  rw [zv_abs, zv_abs, ha, hb, hu, hv]
  constructor
  · intro h
    rw [if_neg (fun ⟨h1, h2⟩ => h ⟨Nat.pos_of_ne_zero h1, h2⟩), if_neg (fun ⟨h1, h2⟩ => h ⟨Nat.pos_of_ne_zero h1, h2⟩)]
    exact ⟨rfl, rfl⟩
  · intro ⟨h1, h2⟩
    rw [if_pos ⟨by omega, h2⟩, if_pos ⟨by omega, h2⟩]
    exact ⟨rfl, rfl⟩

set_option maxRecDepth 100000 in
set_option maxHeartbeats 3200000 in
theorem wdiv_zero (na nb : Bool) (A B : Option Addr) (n c m d : Nat) (l k : List Nat) (w : World) (ha : Lim w A n c l) (hb : Lim w B m d k) (hn : n ≤ 268435456) (hm : m ≤ 268435456) (h0 : vl k = 0) :
    Calls Tryd.prog 9 #[.agg #[.bool na, .slice A n c], .agg #[.bool nb, .slice B m d]] w fun e w' => e = .returned (.tuple #[.agg #[.bool false, .slice none 0 0], .agg #[.bool false, .slice none 0 0], .bool false]) ∧ Below w.heap.size w w' := by
  obtain ⟨ba, hba⟩ : ∃ ba, decide (zv na (vl l) < 0) = ba := ⟨_, rfl⟩
  obtain ⟨bb, hbb⟩ : ∃ bb, decide (zv nb (vl k) < 0) = bb := ⟨_, rfl⟩
  have pa := fun w0 h0 => plain_any na A n c l w0 h0 (by omega)
  have pb := fun w0 h0 => plain_any nb B m d k w0 h0 (by omega)
  rw [hba] at pa
  rw [hbb] at pb
  clear hba hbb
  go_enter Tryd.func9, Tryd.ntmps9
  go_wp2_with fail
  have k0 : Blk ((((w.alloc (.cells #[.bool na, .slice A n c] 24)).alloc (.cells #[.bool nb, .slice B m d] 24)).alloc (.cells #[.bool false, .slice none 0 0] 24)).alloc (.cells #[.bool false, .slice none 0 0] 24)) w.heap.size 24 #[.bool na, .slice A n c] := (((Blk.new w _ _).alloc _).alloc _).alloc _
  have k1 : Blk ((((w.alloc (.cells #[.bool na, .slice A n c] 24)).alloc (.cells #[.bool nb, .slice B m d] 24)).alloc (.cells #[.bool false, .slice none 0 0] 24)).alloc (.cells #[.bool false, .slice none 0 0] 24)) (w.heap.size + 1) 24 #[.bool nb, .slice B m d] := Blk.alloc (Blk.alloc (Blk.new_at _ _ _ (by simp)) _) _
  have c0 := k0.c0
  have c1 := k0.c1
  have c2 := k1.c0
  have c3 := k1.c1
  have l0 : Blk ((((w.alloc (.cells #[.bool na, .slice A n c] 24)).alloc (.cells #[.bool nb, .slice B m d] 24)).alloc (.cells #[.bool false, .slice none 0 0] 24)).alloc (.cells #[.bool false, .slice none 0 0] 24)) (w.heap.size + 2) 24 #[.bool false, .slice none 0 0] := (Blk.new_at (g := w.heap.size + 2) ((w.alloc (.cells #[.bool na, .slice A n c] 24)).alloc (.cells #[.bool nb, .slice B m d] 24)) 24 #[.bool false, .slice none 0 0] (by simp)).alloc _
  have l1 : Blk ((((w.alloc (.cells #[.bool na, .slice A n c] 24)).alloc (.cells #[.bool nb, .slice B m d] 24)).alloc (.cells #[.bool false, .slice none 0 0] 24)).alloc (.cells #[.bool false, .slice none 0 0] 24)) (w.heap.size + 3) 24 #[.bool false, .slice none 0 0] := Blk.new_at (g := w.heap.size + 3) (((w.alloc (.cells #[.bool na, .slice A n c] 24)).alloc (.cells #[.bool nb, .slice B m d] 24)).alloc (.cells #[.bool false, .slice none 0 0] 24)) 24 #[.bool false, .slice none 0 0] (by simp)
  go_region_with (first
      | (go_at_call_has 20 (Value.agg #[.bool na, .slice A n c]); refine (pa _ ?_).mono ?_; (exact ((((ha.alloc _).alloc _).alloc _).alloc _).drew); rintro e w1 ⟨A1, m1, rfl, hm1, ho1, hb1⟩; have q0 := k0.drew.below hb1 (by simp; omega); have q1 := k1.drew.below hb1 (by simp); have d0 := q0.c0; have d1 := q0.c1; have d2 := q1.c0; have d3 := q1.c1)
      | (go_at_call_has 20 (Value.agg #[.bool nb, .slice B m d]); refine (pb _ ?_).mono ?_; (exact (((((hb.alloc _).alloc _).alloc _).alloc _).drew).below hb1); rintro e w2 ⟨A2, m2, rfl, hm2, ho2, hb2⟩; have r0 := q0.below hb2 q0.lt; have r1 := q1.below hb2 q1.lt; have e0 := r0.c0; have e1 := r0.c1; have e2 := r1.c0; have e3 := r1.c1; have f0 := r0.frozen 0; have f1 := r0.frozen 1; have f2 := r1.frozen 0; have f3 := r1.frozen 1))
  all_goals
    have s0 := (r0.st2 (.bool ba) (.slice A1 m1 m1)).far2 (g := w.heap.size + 1) (by omega) (.bool bb) (.slice A2 m2 m2)
    have s1 := (r1.far2 (g := w.heap.size) (by omega) (.bool ba) (.slice A1 m1 m1)).st2 (.bool bb) (.slice A2 m2 m2)
    have n0 := (((l0.drew.below hb1 (by simp)).below hb2 (by have := hb1.size; simp at this; omega)).far2 (g := w.heap.size) (by omega) (.bool ba) (.slice A1 m1 m1)).far2 (g := w.heap.size + 1) (by omega) (.bool bb) (.slice A2 m2 m2)
    have n1 := (((l1.drew.below hb1 (by simp)).below hb2 (by have := hb1.size; simp at this; omega)).far2 (g := w.heap.size) (by omega) (.bool ba) (.slice A1 m1 m1)).far2 (g := w.heap.size + 1) (by omega) (.bool bb) (.slice A2 m2 m2)
    have hb0 : Below w.heap.size w w2 := below_step (below_step (((((Below.refl _ _).alloc (Nat.le_refl _) _).alloc (by simp) _).alloc (by simp; omega) _).alloc (by simp; omega) _).drew hb1 (by simp; omega)) hb2 (by have := hb1.size; simp at this; omega)
    have z1 : ∀ ad, A1 = some ad → w.heap.size + 4 ≤ ad.block := fun ad he => by have := (ho1.lt_ ad he).1; simp at this; omega
    have z2 : ∀ ad, A2 = some ad → w.heap.size + 4 ≤ ad.block := fun ad he => by have h1 := (ho2.lt_ ad he).1; have h2 := hb1.size; simp at h2; omega
    have x1 := ((ho1.below hb2).st2 (g := w.heap.size) (fun ad he => by have := z1 ad he; omega) (.bool ba) (.slice A1 m1 m1)).st2 (g := w.heap.size + 1) (fun ad he => by have := z1 ad he; omega) (.bool bb) (.slice A2 m2 m2)
    have x2 := (ho2.st2 (g := w.heap.size) (fun ad he => by have := z2 ad he; omega) (.bool ba) (.slice A1 m1 m1)).st2 (g := w.heap.size + 1) (fun ad he => by have := z2 ad he; omega) (.bool bb) (.slice A2 m2 m2)
    have y := below_st2 (below_st2 hb0 (Nat.le_refl _) (.bool ba) (.slice A1 m1 m1)) (g := w.heap.size + 1) (by omega) (.bool bb) (.slice A2 m2 m2)
    have zs : w.heap.size + 4 ≤ w2.heap.size := by have h1 := hb1.size; have h2 := hb2.size; simp at h1; omega
    generalize hw3 : ((((w2.setCell ⟨w.heap.size, 0, none⟩ (.bool ba)).setCell ⟨w.heap.size, 1, none⟩ (.slice A1 m1 m1)).setCell ⟨w.heap.size + 1, 0, none⟩ (.bool bb)).setCell ⟨w.heap.size + 1, 1, none⟩ (.slice A2 m2 m2)) = w3 at *
    have zs3 : w.heap.size + 4 ≤ w3.heap.size := by rw [← hw3]; simpa using zs
    clear hw3 zs hb0 ho1 ho2 r0 r1 q0 q1 k0 k1 c0 c1 c2 c3 d0 d1 d2 d3 e0 e1 e2 e3 f0 f1 f2 f3 pa pb l0 l1
    have g0 := s0.c0
    have g1 := s0.c1
    have g2 := s1.c0
    have g3 := s1.c1
    have i0 := n0.c0
    have j0 := n0.c1
    have u0f := n0.frozen 0
    have v0f := n0.frozen 1
    have i1 := n1.c0
    have j1 := n1.c1
    have u1f := n1.frozen 0
    have v1f := n1.frozen 1
    have hdz := fun w0 h0' h1' => div_zero A1 A2 m1 m1 m2 m2 (lmb (vl l)) (lmb (vl k)) w0 h0' h1' (by omega) (by omega) (by rw [vl_lmb]; exact h0)
    go_wp2_with fail
    refine (hdz _ x1.ints x2.ints).mono ?_; rintro e w4 ⟨rfl, hb4⟩
    have p0 := n0.below hb4 n0.lt
    have p1 := n1.below hb4 n1.lt
    have a0 := p0.c0
    have a1 := p0.c1
    have a2 := p0.frozen 0
    have a3 := p0.frozen 1
    have t0 := p1.c0
    have t1 := p1.c1
    have t2 := p1.frozen 0
    have t3 := p1.frozen 1
    go_wp2_with fail
    refine bodyPost_ret (results_row2_tmp rfl _ _ (w.heap.size + 2) (w.heap.size + 3) 24 24 #[.bool false, .slice none 0 0] #[.bool false, .slice none 0 0] (0, 0) (0, 0) _ rfl ((p0.st2 _ _).far2 (g := w.heap.size + 3) (by omega) _ _).is rfl ((p1.far2 (g := w.heap.size + 2) (by omega) _ _).st2 _ _).is Tryd.underlying24 rfl (by kernel_rfl) (by kernel_rfl)) rfl ?_
    have b4 := below_step y hb4 (by omega)
    exact ⟨rfl, below_st2 (below_st2 b4 (by omega) _ _) (by omega) _ _⟩

set_option maxRecDepth 100000 in
set_option maxHeartbeats 6400000 in
theorem wdiv_any (na nb : Bool) (A B : Option Addr) (n c m d : Nat) (l k : List Nat) (w : World) (ha : Lim w A n c l) (hb : Lim w B m d k) (hn : n ≤ 268435456) (hm : m ≤ 268435456) (h0 : 0 < vl k) :
    Calls Tryd.prog 9 #[.agg #[.bool na, .slice A n c], .agg #[.bool nb, .slice B m d]] w fun e w' => ∃ A2 q A3 r, e = .returned (.tuple #[.agg #[.bool (decide (wdiv (zv na (vl l)) (zv nb (vl k)) < 0)), .slice A2 q q], .agg #[.bool (decide (wmod (zv na (vl l)) (zv nb (vl k)) < 0)), .slice A3 r r], .bool true]) ∧ q ≤ n + 3 ∧ r ≤ max n m + 1 ∧ OwnL w' w.heap.size A2 q q (lmb (wdiv (zv na (vl l)) (zv nb (vl k))).natAbs) ∧ OwnL w' w.heap.size A3 r r (lmb (wmod (zv na (vl l)) (zv nb (vl k))).natAbs) ∧ Below w.heap.size w w' := by
  obtain ⟨ba, hba⟩ : ∃ ba, decide (zv na (vl l) < 0) = ba := ⟨_, rfl⟩
  obtain ⟨bb, hbb⟩ : ∃ bb, decide (zv nb (vl k) < 0) = bb := ⟨_, rfl⟩
  have pa := fun w0 h0 => plain_any na A n c l w0 h0 (by omega)
  have pb := fun w0 h0 => plain_any nb B m d k w0 h0 (by omega)
  rw [hba] at pa
  rw [hbb] at pb
  have za := zv_plain na ba (vl l) hba
  have zb := zv_plain nb bb (vl k) hbb
  have HBA := Lib.hid hba
  have HBB := Lib.hid hbb
  have HA := Lib.hid za
  have HB := Lib.hid zb
  clear hba hbb za zb
  go_enter Tryd.func9, Tryd.ntmps9
  go_wp2_with fail
  have k0 : Blk ((((w.alloc (.cells #[.bool na, .slice A n c] 24)).alloc (.cells #[.bool nb, .slice B m d] 24)).alloc (.cells #[.bool false, .slice none 0 0] 24)).alloc (.cells #[.bool false, .slice none 0 0] 24)) w.heap.size 24 #[.bool na, .slice A n c] := (((Blk.new w _ _).alloc _).alloc _).alloc _
  have k1 : Blk ((((w.alloc (.cells #[.bool na, .slice A n c] 24)).alloc (.cells #[.bool nb, .slice B m d] 24)).alloc (.cells #[.bool false, .slice none 0 0] 24)).alloc (.cells #[.bool false, .slice none 0 0] 24)) (w.heap.size + 1) 24 #[.bool nb, .slice B m d] := Blk.alloc (Blk.alloc (Blk.new_at _ _ _ (by simp)) _) _
  have c0 := k0.c0
  have c1 := k0.c1
  have c2 := k1.c0
  have c3 := k1.c1
  have l0 : Blk ((((w.alloc (.cells #[.bool na, .slice A n c] 24)).alloc (.cells #[.bool nb, .slice B m d] 24)).alloc (.cells #[.bool false, .slice none 0 0] 24)).alloc (.cells #[.bool false, .slice none 0 0] 24)) (w.heap.size + 2) 24 #[.bool false, .slice none 0 0] := (Blk.new_at (g := w.heap.size + 2) ((w.alloc (.cells #[.bool na, .slice A n c] 24)).alloc (.cells #[.bool nb, .slice B m d] 24)) 24 #[.bool false, .slice none 0 0] (by simp)).alloc _
  have l1 : Blk ((((w.alloc (.cells #[.bool na, .slice A n c] 24)).alloc (.cells #[.bool nb, .slice B m d] 24)).alloc (.cells #[.bool false, .slice none 0 0] 24)).alloc (.cells #[.bool false, .slice none 0 0] 24)) (w.heap.size + 3) 24 #[.bool false, .slice none 0 0] := Blk.new_at (g := w.heap.size + 3) (((w.alloc (.cells #[.bool na, .slice A n c] 24)).alloc (.cells #[.bool nb, .slice B m d] 24)).alloc (.cells #[.bool false, .slice none 0 0] 24)) 24 #[.bool false, .slice none 0 0] (by simp)
  go_region_with (first
      | (go_at_call_has 20 (Value.agg #[.bool na, .slice A n c]); refine (pa _ ?_).mono ?_; (exact ((((ha.alloc _).alloc _).alloc _).alloc _).drew); rintro e w1 ⟨A1, m1, rfl, hm1, ho1, hb1⟩; have q0 := k0.drew.below hb1 (by simp; omega); have q1 := k1.drew.below hb1 (by simp); have d0 := q0.c0; have d1 := q0.c1; have d2 := q1.c0; have d3 := q1.c1)
      | (go_at_call_has 20 (Value.agg #[.bool nb, .slice B m d]); refine (pb _ ?_).mono ?_; (exact (((((hb.alloc _).alloc _).alloc _).alloc _).drew).below hb1); rintro e w2 ⟨A2, m2, rfl, hm2, ho2, hb2⟩; have r0 := q0.below hb2 q0.lt; have r1 := q1.below hb2 q1.lt; have e0 := r0.c0; have e1 := r0.c1; have e2 := r1.c0; have e3 := r1.c1; have f0 := r0.frozen 0; have f1 := r0.frozen 1; have f2 := r1.frozen 0; have f3 := r1.frozen 1))
  all_goals
    have s0 := (r0.st2 (.bool ba) (.slice A1 m1 m1)).far2 (g := w.heap.size + 1) (by omega) (.bool bb) (.slice A2 m2 m2)
    have s1 := (r1.far2 (g := w.heap.size) (by omega) (.bool ba) (.slice A1 m1 m1)).st2 (.bool bb) (.slice A2 m2 m2)
    have n0 := (((l0.drew.below hb1 (by simp)).below hb2 (by have := hb1.size; simp at this; omega)).far2 (g := w.heap.size) (by omega) (.bool ba) (.slice A1 m1 m1)).far2 (g := w.heap.size + 1) (by omega) (.bool bb) (.slice A2 m2 m2)
    have n1 := (((l1.drew.below hb1 (by simp)).below hb2 (by have := hb1.size; simp at this; omega)).far2 (g := w.heap.size) (by omega) (.bool ba) (.slice A1 m1 m1)).far2 (g := w.heap.size + 1) (by omega) (.bool bb) (.slice A2 m2 m2)
    have hb0 : Below w.heap.size w w2 := below_step (below_step (((((Below.refl _ _).alloc (Nat.le_refl _) _).alloc (by simp) _).alloc (by simp; omega) _).alloc (by simp; omega) _).drew hb1 (by simp; omega)) hb2 (by have := hb1.size; simp at this; omega)
    have z1 : ∀ ad, A1 = some ad → w.heap.size + 4 ≤ ad.block := fun ad he => by have := (ho1.lt_ ad he).1; simp at this; omega
    have z2 : ∀ ad, A2 = some ad → w.heap.size + 4 ≤ ad.block := fun ad he => by have h1 := (ho2.lt_ ad he).1; have h2 := hb1.size; simp at h2; omega
    have x1 := ((ho1.below hb2).st2 (g := w.heap.size) (fun ad he => by have := z1 ad he; omega) (.bool ba) (.slice A1 m1 m1)).st2 (g := w.heap.size + 1) (fun ad he => by have := z1 ad he; omega) (.bool bb) (.slice A2 m2 m2)
    have x2 := (ho2.st2 (g := w.heap.size) (fun ad he => by have := z2 ad he; omega) (.bool ba) (.slice A1 m1 m1)).st2 (g := w.heap.size + 1) (fun ad he => by have := z2 ad he; omega) (.bool bb) (.slice A2 m2 m2)
    have y := below_st2 (below_st2 hb0 (Nat.le_refl _) (.bool ba) (.slice A1 m1 m1)) (g := w.heap.size + 1) (by omega) (.bool bb) (.slice A2 m2 m2)
    have zs : w.heap.size + 4 ≤ w2.heap.size := by have h1 := hb1.size; have h2 := hb2.size; simp at h1; omega
    generalize hw3 : ((((w2.setCell ⟨w.heap.size, 0, none⟩ (.bool ba)).setCell ⟨w.heap.size, 1, none⟩ (.slice A1 m1 m1)).setCell ⟨w.heap.size + 1, 0, none⟩ (.bool bb)).setCell ⟨w.heap.size + 1, 1, none⟩ (.slice A2 m2 m2)) = w3 at *
    have zs3 : w.heap.size + 4 ≤ w3.heap.size := by rw [← hw3]; simpa using zs
    clear hw3 zs hb0 ho1 ho2 r0 r1 q0 q1 k0 k1 c0 c1 c2 c3 d0 d1 d2 d3 e0 e1 e2 e3 f0 f1 f2 f3 pa pb l0 l1
    have g0 := s0.c0
    have g1 := s0.c1
    have g2 := s1.c0
    have g3 := s1.c1
    have i0 := n0.c0
    have j0 := n0.c1
    have u0f := n0.frozen 0
    have v0f := n0.frozen 1
    have i1 := n1.c0
    have j1 := n1.c1
    have u1f := n1.frozen 0
    have v1f := n1.frozen 1
    have hdv := fun w0 h0' h1' => div_any A1 A2 m1 m1 m2 m2 (lmb (vl l)) (lmb (vl k)) w0 h0' h1' (by omega) (by omega) (by rw [vl_lmb]; exact h0)
    simp only [vl_lmb] at hdv
    go_wp2_with fail
    refine (hdv _ x1.ints x2.ints).mono ?_; rintro e w4 ⟨A4, m4, A5, m5, rfl, ho4, ho5, hm4, hm5, hb4⟩
    have p0 := n0.below hb4 n0.lt
    have p1 := n1.below hb4 n1.lt
    have q0 := s0.below hb4 s0.lt
    have q1 := s1.below hb4 s1.lt
    have d0 := q0.c0
    have d1 := q1.c0
    obtain ⟨u, hu⟩ : ∃ u, vl l / vl k = u := ⟨_, rfl⟩
    obtain ⟨v, hv⟩ : ∃ v, vl l % vl k = v := ⟨_, rfl⟩
    rw [hu] at ho4
    rw [hv] at ho5
    obtain ⟨cq, hcq⟩ : ∃ cq, decide (zv (ba != bb) u < 0) = cq := ⟨_, rfl⟩
    obtain ⟨cr, hcr⟩ : ∃ cr, decide (zv ba v < 0) = cr := ⟨_, rfl⟩
    have hfq := fun w0 h0 => of_any (ba != bb) A4 m4 m4 (lmb u) w0 h0 (by omega)
    have hfr := fun w0 h0 => of_any ba A5 m5 m5 (lmb v) w0 h0 (by omega)
    simp only [vl_lmb, hcq] at hfq
    simp only [vl_lmb, hcr] at hfr
    have HU := Lib.hid hu
    have HV := Lib.hid hv
    have HCQ := Lib.hid hcq
    have HCR := Lib.hid hcr
    have h4 := hb4.size
    have y4 := below_step y hb4 (by omega)
    clear hu hv hcq hcr hdv
    go_wp2_with fail
    have dd0 := q0.drew.c0
    have dd1 := q1.drew.c0
    go_region_held3 (fun w' => w'.cell? ⟨w.heap.size, 0, none⟩ = some (.bool ba) ∧ w'.cell? ⟨w.heap.size + 1, 0, none⟩ = some (.bool bb))
      (refine ⟨?_, ?_⟩ <;> with_reducible assumption)
      ((first
        | (go_at_call_has 23 (Value.slice A4 m4 m4); refine (hfq _ ho4.drew.ints).mono ?_; rintro e w5 ⟨A6, m6, rfl, hm6, ho6, hb5⟩; have v0 := q0.drew.below hb5 q0.drew.lt; have v1 := q1.drew.below hb5 q1.drew.lt; have e0 := v0.c0; have e1 := v1.c0)
        | (go_at_call_has 23 (Value.slice A5 m5 m5); refine (hfr _ (ho5.drew.below hb5).ints).mono ?_; rintro e w6 ⟨A7, m7, rfl, hm7, ho7, hb6⟩; have o0 := p0.drew.below hb5 p0.drew.lt; have o1 := o0.below hb6 o0.lt; have o2 := p1.drew.below hb5 p1.drew.lt; have o3 := o2.below hb6 o2.lt; have a0 := o1.c0; have a1 := o1.c1; have a2 := o1.frozen 0; have a3 := o1.frozen 1; have t0 := o3.c0; have t1 := o3.c1; have t2 := o3.frozen 0; have t3 := o3.frozen 1; have v2 := v0.below hb6 v0.lt; have v3 := v1.below hb6 v1.lt; have v4 := v2.far2 (g := w.heap.size + 1 + 1) (by omega) (.bool cq) (.slice A6 m6 m6); have v5 := v3.far2 (g := w.heap.size + 1 + 1) (by omega) (.bool cq) (.slice A6 m6 m6); have v6 := v4.far2 (g := w.heap.size + 1 + 1 + 1) (by omega) (.bool cr) (.slice A7 m7 m7); have v7 := v5.far2 (g := w.heap.size + 1 + 1 + 1) (by omega) (.bool cr) (.slice A7 m7 m7); have e2 := v2.c0; have e3 := v3.c0; have e4 := v4.c0; have e5 := v5.c0; have e6 := v6.c0; have e7 := v7.c0)))
    have hs6 := hb6.size
    have hs5 := hb5.size
    have hs5' : w4.heap.size ≤ w5.heap.size := hs5
    have P4 := (o1.st2 (.bool cq) (.slice A6 m6 m6)).far2 (g := w.heap.size + 1 + 1 + 1) (by omega) (.bool cr) (.slice A7 m7 m7)
    have P5 := (o3.far2 (g := w.heap.size + 1 + 1) (by omega) (.bool cq) (.slice A6 m6 m6)).st2 (.bool cr) (.slice A7 m7 m7)
    have T0 := ((v2.far2 (g := w.heap.size + 1 + 1) (by omega) (.bool cq) (.slice A6 m6 m6)).far2 (g := w.heap.size + 1 + 1 + 1) (by omega) (.bool cr) (.slice A7 m7 m7))
    have T1 := ((v3.far2 (g := w.heap.size + 1 + 1) (by omega) (.bool cq) (.slice A6 m6 m6)).far2 (g := w.heap.size + 1 + 1 + 1) (by omega) (.bool cr) (.slice A7 m7 m7))
    have y6 := below_step (below_step y4.drew hb5 (by show w.heap.size ≤ w4.heap.size; omega)) hb6 (by omega)
    have G6 : ∀ ad, A6 = some ad → w.heap.size + 4 ≤ ad.block := fun ad he => by have h1 := (ho6.lt_ ad he).1; have h2 : w4.heap.size ≤ ad.block := h1; omega
    have G7 : ∀ ad, A7 = some ad → w.heap.size + 4 ≤ ad.block := fun ad he => by have h1 := (ho7.lt_ ad he).1; omega
    have G2 : ∀ ad, A2 = some ad → w.heap.size + 4 ≤ ad.block := z2
    have X2 : Lim w6 A2 m2 m2 (lmb (vl k)) := (((x2.below hb4).drew.below hb5).below hb6).ints
    have x6 := (((ho6.below hb6).st2 (g := w.heap.size + 1 + 1) (fun ad he => by have := G6 ad he; omega) (.bool cq) (.slice A6 m6 m6)).st2 (g := w.heap.size + 1 + 1 + 1) (fun ad he => by have := G6 ad he; omega) (.bool cr) (.slice A7 m7 m7)).mono (b' := w.heap.size) (by show w.heap.size ≤ w4.heap.size; omega)
    have x7 := ((ho7.st2 (g := w.heap.size + 1 + 1) (fun ad he => by have := G7 ad he; omega) (.bool cq) (.slice A6 m6 m6)).st2 (g := w.heap.size + 1 + 1 + 1) (fun ad he => by have := G7 ad he; omega) (.bool cr) (.slice A7 m7 m7)).mono (b' := w.heap.size) (by omega)
    have XB := (X2.st2 (g := w.heap.size + 1 + 1) (fun ad he => by have := G2 ad he; omega) (.bool cq) (.slice A6 m6 m6)).st2 (g := w.heap.size + 1 + 1 + 1) (fun ad he => by have := G2 ad he; omega) (.bool cr) (.slice A7 m7 m7)
    have Y := below_st2 (below_st2 y6 (g := w.heap.size + 1 + 1) (by omega) (.bool cq) (.slice A6 m6 m6)) (g := w.heap.size + 1 + 1 + 1) (by omega) (.bool cr) (.slice A7 m7 m7)
    generalize hw7 : ((((w6.setCell ⟨w.heap.size + 1 + 1, 0, none⟩ (.bool cq)).setCell ⟨w.heap.size + 1 + 1, 1, none⟩ (.slice A6 m6 m6)).setCell ⟨w.heap.size + 1 + 1 + 1, 0, none⟩ (.bool cr)).setCell ⟨w.heap.size + 1 + 1 + 1, 1, none⟩ (.slice A7 m7 m7)) = w7 at *
    have hs7 : w.heap.size + 4 ≤ w7.heap.size := by rw [← hw7]; simp; omega
    clear hw7 v0 v1 v2 v3 v4 v5 v6 v7 e0 e1 e2 e3 e4 e5 e6 e7 o0 o1 o2 o3 a0 a1 a2 a3 t0 t1 t2 t3 dd0 dd1 d0 d1 q0 q1 p0 p1 hfq hfr s0 s1 n0 n1 x1 x2 y y4 y6 ho4 ho5 ho6 ho7 hb4 hb5 hb6 g0 g1 g2 g3 X2
    have c40 := P4.c0
    have c41 := P4.c1
    have c50 := P5.c0
    have c51 := P5.c1
    have c30 := T1.c0
    have f40 := P4.frozen 0
    have f41 := P4.frozen 1
    have f50 := P5.frozen 0
    have f51 := P5.frozen 1
    have hl7 := x7.len
    by_cases hturn : 0 < v ∧ ba ≠ bb
    · obtain ⟨hd1, hd2⟩ := (wdiv_parts na nb ba bb (vl l) (vl k) u v HBA.out HBB.out HU.out HV.out).2 hturn
      have c31 := T1.c1
      have hcrb : cr ≠ bb := by
        rw [← HCR.out, zv_neg, decide_eq_true hturn.1, Bool.and_true]; exact hturn.2
      have hm70 : 0 < m7 := by
        rcases Nat.eq_zero_or_pos m7 with h | h
        · rw [h] at hl7
          have := (Num.dig_eq_nil (b := 4294967296) (by decide) v).1 (List.eq_nil_of_length_eq_zero hl7)
          omega
        · exact h
      have hm71 : (0 : Int) < (m7 : Int) := by omega
      have hcx : (cr == bb) = false := by simp; exact hcrb
      have hzq : zv cq u = zv (ba != bb) u := by
        have := zv_plain (ba != bb) cq u HCQ.out
        exact this.symm
      have hzr : zv cr v = zv ba v := (zv_plain ba cr v HCR.out).symm
      obtain ⟨eq, heq⟩ : ∃ eq, decide (wdiv (zv na (vl l)) (zv nb (vl k)) < 0) = eq := ⟨_, rfl⟩
      obtain ⟨er, her⟩ : ∃ er, decide (wmod (zv na (vl l)) (zv nb (vl k)) < 0) = er := ⟨_, rfl⟩
      have psub := fun A8 m8 w0 h0 (h1 : Lim w0 A8 m8 m8 (lmb (1 : Int).natAbs)) (hm8 : m8 ≤ 2) => wsub_any cq false A6 A8 m6 m6 m8 m8 (lmb u) (lmb (1 : Int).natAbs) w0 h0 h1 (by omega) (by omega)
      have padd := fun w0 h0 h1 => wadd_any cr bb A7 A2 m7 m7 m2 m2 (lmb v) (lmb (vl k)) w0 h0 h1 (by omega) (by omega)
      simp only [vl_lmb, hzr, ← HB.out, ← hd2, her] at padd
      have h11 : (((1 : Int).natAbs : Nat) : Int) = 1 := rfl
      simp only [vl_lmb, hzq, zv_false, h11, ← hd1, heq] at psub
      have HEQ := Lib.hid heq
      have HER := Lib.hid her
      have hone := fun w0 => wof_any 1 w0 (by omega) (by omega)
      have hd01 : decide ((1 : Int) < 0) = false := by decide
      simp only [hd01] at hone
      clear hd1 hd2 hturn hl7 hcrb hzq hzr heq her
      go_wp2_with fail
      have L0 : Blk w7.drew (w.heap.size + 1 + 1) 24 #[.bool cq, .slice A6 m6 m6] := P4.drew
      have L1 : Blk w7.drew (w.heap.size + 1 + 1 + 1) 24 #[.bool cr, .slice A7 m7 m7] := P5.drew
      have L2 := T1.drew
      refine wp_region_late [6, 7] (fun w' => (w'.cell? ⟨w.heap.size + 1 + 1, 0, none⟩ = some (.bool cq) ∧ w'.cell? ⟨w.heap.size + 1 + 1, 1, none⟩ = some (.slice A6 m6 m6)) ∧ (w'.cell? ⟨w.heap.size + 1 + 1 + 1, 0, none⟩ = some (.bool cr) ∧ w'.cell? ⟨w.heap.size + 1 + 1 + 1, 1, none⟩ = some (.slice A7 m7 m7)) ∧ (w'.cell? ⟨w.heap.size + 1, 0, none⟩ = some (.bool bb) ∧ w'.cell? ⟨w.heap.size + 1, 1, none⟩ = some (.slice A2 m2 m2))) (by kernel_rfl) ?_
      refine wpAnyL_take (i := 0) (v := .agg #[.bool cq, .slice A6 m6 m6]) rfl (by kernel_rfl) (by kernel_rfl) (by kernel_rfl) (by kernel_rfl) (by kernel_rfl) (fun _ _ _ h => h) (Or.inl ⟨by rfl, by rintro w' ⟨⟨h1, h2⟩, ⟨h3, h4⟩, h5, h6⟩; go_simp⟩) ⟨⟨L0.c0, L0.c1⟩, ⟨L1.c0, L1.c1⟩, L2.c0, L2.c1⟩ ?_
      try simp only [Act.put, List.setIfInBounds_toArray]
      refine wpAnyL_take (i := 3) (v := .agg #[.bool cr, .slice A7 m7 m7]) rfl (by kernel_rfl) (by kernel_rfl) (by kernel_rfl) (by kernel_rfl) (by kernel_rfl) (fun _ _ _ h => h) (Or.inl ⟨by rfl, by rintro w' ⟨⟨h1, h2⟩, ⟨h3, h4⟩, h5, h6⟩; go_simp⟩) ⟨⟨L0.c0, L0.c1⟩, ⟨L1.c0, L1.c1⟩, L2.c0, L2.c1⟩ ?_
      try simp only [Act.put]
      refine wpAnyL_take (i := 4) (v := .agg #[.bool bb, .slice A2 m2 m2]) rfl (by kernel_rfl) (by kernel_rfl) (by kernel_rfl) (by kernel_rfl) (by kernel_rfl) (fun _ _ _ h => h) (Or.inl ⟨by rfl, by rintro w' ⟨⟨h1, h2⟩, ⟨h3, h4⟩, h5, h6⟩; go_simp⟩) ⟨⟨L0.c0, L0.c1⟩, ⟨L1.c0, L1.c1⟩, L2.c0, L2.c1⟩ ?_
      try simp only [Act.put]
      refine wpAnyL_one (i := 1) (by kernel_rfl) rfl (fun K hK => ?_)
      go_simp
      refine (hone _).mono ?_; rintro e w8 ⟨A8, m8, rfl, hm8, ho8, hb8⟩
      have k4 := L0.below hb8 L0.lt
      have k5 := L1.below hb8 L1.lt
      have k1 := L2.below hb8 L2.lt
      go_wp2_with fail
      refine hK.out _ _ (fun _ => ⟨⟨k4.c0, k4.c1⟩, ⟨k5.c0, k5.c1⟩, k1.c0, k1.c1⟩) ?_
      clear hK K
      try simp only [Act.put, List.setIfInBounds_toArray]
      refine wpAnyL_one (i := 2) (by kernel_rfl) rfl (fun K hK => ?_)
      go_simp
      refine (psub A8 m8 _ (x6.drew.below hb8).ints ho8.ints hm8).mono ?_; rintro e w9 ⟨A9, m9, rfl, hm9, ho9, hb9⟩
      have l4 := k4.below hb9 k4.lt
      have l5 := k5.below hb9 k5.lt
      have l1 := k1.below hb9 k1.lt
      go_wp2_with fail
      refine hK.out _ _ (fun _ => ⟨⟨l4.c0, l4.c1⟩, ⟨l5.c0, l5.c1⟩, l1.c0, l1.c1⟩) ?_
      clear hK K
      try simp only [Act.put, List.setIfInBounds_toArray]
      refine wpAnyL_one (i := 5) (by kernel_rfl) rfl (fun K hK => ?_)
      go_simp
      refine (padd _ ((x7.drew.below hb8).below hb9).ints ((XB.drew.below hb8).below hb9)).mono ?_; rintro e w10 ⟨A10, m10, rfl, hm10, ho10, hb10⟩
      have u4 := l4.below hb10 l4.lt
      have u5 := l5.below hb10 l5.lt
      have u1 := l1.below hb10 l1.lt
      have e40 := u4.c0
      have e41 := u4.c1
      have e50 := u5.c0
      have e51 := u5.c1
      have f40' := u4.frozen 0
      have f41' := u4.frozen 1
      have f50' := u5.frozen 0
      have f51' := u5.frozen 1
      go_wp2_with fail
      refine hK.out _ _ (fun _ => ⟨⟨u4.c0, u4.c1⟩, ⟨u5.c0, u5.c1⟩, u1.c0, u1.c1⟩) ?_
      clear hK K
      try simp only [Act.put, List.setIfInBounds_toArray]
      refine wpAnyL_one (i := 6) (by kernel_rfl) rfl (fun K hK => ?_)
      go_simp
      refine hK.out _ _ (fun h => absurd (by simp) h) ?_
      clear hK K
      try simp only [Act.put, List.setIfInBounds_toArray]
      refine wpAnyL_one (i := 7) (by kernel_rfl) rfl (fun K hK => ?_)
      go_simp
      refine hK.out _ _ (fun h => absurd (by simp) h) ?_
      clear hK K
      try simp only [Act.put, List.setIfInBounds_toArray]
      refine wpAnyL_done (by kernel_rfl) ?_ _
      have s8 : w7.heap.size ≤ w8.heap.size := hb8.size
      have s9 : w8.heap.size ≤ w9.heap.size := hb9.size
      have s10 : w9.heap.size ≤ w10.heap.size := hb10.size
      have V4 := (u4.st2 (.bool eq) (.slice A9 m9 m9)).far2 (g := w.heap.size + 1 + 1 + 1) (by omega) (.bool er) (.slice A10 m10 m10)
      have V5 := (u5.far2 (g := w.heap.size + 1 + 1) (by omega) (.bool eq) (.slice A9 m9 m9)).st2 (.bool er) (.slice A10 m10 m10)
      have G9 : ∀ ad, A9 = some ad → w.heap.size + 4 ≤ ad.block := fun ad he => by have h1 := (ho9.lt_ ad he).1; omega
      have G10 : ∀ ad, A10 = some ad → w.heap.size + 4 ≤ ad.block := fun ad he => by have h1 := (ho10.lt_ ad he).1; omega
      have X9 := (((ho9.below hb10).st2 (g := w.heap.size + 1 + 1) (fun ad he => by have := G9 ad he; omega) (.bool eq) (.slice A9 m9 m9)).st2 (g := w.heap.size + 1 + 1 + 1) (fun ad he => by have := G9 ad he; omega) (.bool er) (.slice A10 m10 m10)).mono (b' := w.heap.size) (by omega)
      have X10 := ((ho10.st2 (g := w.heap.size + 1 + 1) (fun ad he => by have := G10 ad he; omega) (.bool eq) (.slice A9 m9 m9)).st2 (g := w.heap.size + 1 + 1 + 1) (fun ad he => by have := G10 ad he; omega) (.bool er) (.slice A10 m10 m10)).mono (b' := w.heap.size) (by omega)
      have YY := below_st2 (below_st2 (below_step (below_step (below_step Y.drew hb8 (by show w.heap.size ≤ w7.heap.size; omega)) hb9 (by omega)) hb10 (by omega)) (g := w.heap.size + 1 + 1) (by omega) (.bool eq) (.slice A9 m9 m9)) (g := w.heap.size + 1 + 1 + 1) (by omega) (.bool er) (.slice A10 m10 m10)
      generalize ((((w10.setCell ⟨w.heap.size + 1 + 1, 0, none⟩ (.bool eq)).setCell ⟨w.heap.size + 1 + 1, 1, none⟩ (.slice A9 m9 m9)).setCell ⟨w.heap.size + 1 + 1 + 1, 0, none⟩ (.bool er)).setCell ⟨w.heap.size + 1 + 1 + 1, 1, none⟩ (.slice A10 m10 m10)) = w11 at *
      clear u4 u5 u1 l4 l5 l1 k4 k5 k1 L0 L1 L2 P4 P5 T0 T1 e40 e41 e50 e51 f40' f41' f50' f51' c40 c41 c50 c51 c30 c31 f40 f41 f50 f51 psub padd hone x6 x7 XB Y
      have e40 := V4.c0
      have e41 := V4.c1
      have e50 := V5.c0
      have e51 := V5.c1
      have f40 := V4.frozen 0
      have f41 := V4.frozen 1
      have f50 := V5.frozen 0
      have f51 := V5.frozen 1
      go_wp2_with fail
      go_region
      go_wp2_with fail
      refine bodyPost_ret (results_row2_tmp rfl _ _ (w.heap.size + 2) (w.heap.size + 3) 24 24 #[.bool eq, .slice A9 m9 m9] #[.bool er, .slice A10 m10 m10] (0, 0) (0, 0) _ rfl ((V4.st2 _ _).far2 (g := w.heap.size + 3) (by omega) _ _).drew.is rfl ((V5.far2 (g := w.heap.size + 2) (by omega) _ _).st2 _ _).drew.is Tryd.underlying24 rfl (by kernel_rfl) (by kernel_rfl)) rfl ?_
      rw [HEQ.out, HER.out]
      exact ⟨A9, m9, A10, m10, rfl, by omega, by omega, ((X9.st2 (g := w.heap.size + 2) (fun ad he => by have := G9 ad he; omega) _ _).st2 (g := w.heap.size + 3) (fun ad he => by have := G9 ad he; omega) _ _).drew, ((X10.st2 (g := w.heap.size + 2) (fun ad he => by have := G10 ad he; omega) _ _).st2 (g := w.heap.size + 3) (fun ad he => by have := G10 ad he; omega) _ _).drew, (below_st2 (below_st2 YY (g := w.heap.size + 2) (by omega) _ _) (g := w.heap.size + 3) (by omega) _ _).drew⟩
    · obtain ⟨hd1, hd2⟩ := (wdiv_parts na nb ba bb (vl l) (vl k) u v HBA.out HBB.out HU.out HV.out).1 hturn
      have HD1 := Lib.hid hd1
      have HD2 := Lib.hid hd2
      have hcase : m7 = 0 ∨ (0 < m7 ∧ cr = bb) := by
        rcases Nat.eq_zero_or_pos m7 with h70 | h70
        · exact .inl h70
        refine .inr ⟨h70, ?_⟩
        by_cases hv0 : v = 0
        · rw [hv0, lmb_zero] at hl7; have h77 : 0 = m7 := hl7; omega
        · have hbb : ba = bb := by
            apply Classical.byContradiction
            intro hne
            exact hturn ⟨by omega, hne⟩
          rw [← hbb, ← HCR.out, zv_neg, decide_eq_true (show 0 < v by omega), Bool.and_true]
      clear hd1 hd2 hturn hl7
      rcases hcase with hc | ⟨hm70, hc⟩
      · subst hc
        go_wp2_with fail
        go_region
        go_wp2_with fail
        refine bodyPost_ret (results_row2_tmp rfl _ _ (w.heap.size + 2) (w.heap.size + 3) 24 24 #[.bool cq, .slice A6 m6 m6] #[.bool cr, .slice A7 0 0] (0, 0) (0, 0) _ rfl ((P4.st2 _ _).far2 (g := w.heap.size + 3) (by omega) _ _).drew.is rfl ((P5.far2 (g := w.heap.size + 2) (by omega) _ _).st2 _ _).drew.is Tryd.underlying24 rfl (by kernel_rfl) (by kernel_rfl)) rfl ?_
        rw [HD1.out, HD2.out, HCQ.out, HCR.out, zv_abs, zv_abs]
        exact ⟨A6, m6, A7, _, rfl, by omega, by omega, ((x6.st2 (g := w.heap.size + 2) (fun ad he => by have := G6 ad he; omega) _ _).st2 (g := w.heap.size + 3) (fun ad he => by have := G6 ad he; omega) _ _).drew, ((x7.st2 (g := w.heap.size + 2) (fun ad he => by have := G7 ad he; omega) _ _).st2 (g := w.heap.size + 3) (fun ad he => by have := G7 ad he; omega) _ _).drew, (below_st2 (below_st2 Y (g := w.heap.size + 2) (by omega) _ _) (g := w.heap.size + 3) (by omega) _ _).drew⟩
      · have hm71 : (0 : Int) < (m7 : Int) := by omega
        subst hc
        go_wp2_with fail
        go_region
        go_wp2_with fail
        refine bodyPost_ret (results_row2_tmp rfl _ _ (w.heap.size + 2) (w.heap.size + 3) 24 24 #[.bool cq, .slice A6 m6 m6] #[.bool cr, .slice A7 m7 m7] (0, 0) (0, 0) _ rfl ((P4.st2 _ _).far2 (g := w.heap.size + 3) (by omega) _ _).drew.is rfl ((P5.far2 (g := w.heap.size + 2) (by omega) _ _).st2 _ _).drew.is Tryd.underlying24 rfl (by kernel_rfl) (by kernel_rfl)) rfl ?_
        rw [HD1.out, HD2.out, HCQ.out, HCR.out, zv_abs, zv_abs]
        exact ⟨A6, m6, A7, _, rfl, by omega, by omega, ((x6.st2 (g := w.heap.size + 2) (fun ad he => by have := G6 ad he; omega) _ _).st2 (g := w.heap.size + 3) (fun ad he => by have := G6 ad he; omega) _ _).drew, ((x7.st2 (g := w.heap.size + 2) (fun ad he => by have := G7 ad he; omega) _ _).st2 (g := w.heap.size + 3) (fun ad he => by have := G7 ad he; omega) _ _).drew, (below_st2 (below_st2 Y (g := w.heap.size + 2) (by omega) _ _) (g := w.heap.size + 3) (by omega) _ _).drew⟩
end Go.Proofs.YticjhlbmdjijnaaDoor
