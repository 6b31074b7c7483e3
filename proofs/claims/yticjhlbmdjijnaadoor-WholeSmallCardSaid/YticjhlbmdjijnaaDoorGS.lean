/- Texts of several parts in one: RW8, ZS, WAwake, WFew. Each says what it proves; no condition but those named there. -/
import Derived.Test.YticjhlbmdjijnaaDoorGO
import Derived.Test.YticjhlbmdjijnaaDoorG8
import Derived.Test.YticjhlbmdjijnaaDoorGP
/- The contract of heijunkaref02: Small. No condition but the reach of a slice. -/
namespace Go.Proofs.YticjhlbmdjijnaaDoor
open Go.RowKit

/-- Is a whole number an int64? -/
def zin (x : Int) : Bool := decide (-9223372036854775808 ≤ x ∧ x ≤ 9223372036854775807)
def zsm (x : Int) : Int := if zin x then x else 0
theorem zin_yes {x : Int} (h1 : -9223372036854775808 ≤ x) (h2 : x ≤ 9223372036854775807) : zin x = true ∧ zsm x = x := by
  have : zin x = true := decide_eq_true ⟨h1, h2⟩
  exact ⟨this, by unfold zsm; rw [this]; rfl⟩
theorem zin_no {x : Int} (h : ¬ (-9223372036854775808 ≤ x ∧ x ≤ 9223372036854775807)) : zin x = false ∧ zsm x = 0 := by
  have : zin x = false := decide_eq_false h
  exact ⟨this, by unfold zsm; rw [this]; rfl⟩
theorem lmb_lo : lmb 9223372036854775808 = [0, 2147483648] := by
  have h : vl [0, 2147483648] = 9223372036854775808 := by simp [vl, Num.val]
  rw [← h]
  exact lmb_lit [0, 2147483648] (by decide) (by decide)
theorem lmb_hi : lmb 9223372036854775807 = [4294967295, 2147483647] := by
  have h : vl [4294967295, 2147483647] = 9223372036854775807 := by simp [vl, Num.val]
  rw [← h]
  exact lmb_lit [4294967295, 2147483647] (by decide) (by decide)
theorem zis_lo (g : Nat) (w0 : World) (hg : g = w0.heap.size) : ZIs (w0.alloc (.cells #[.int .u32 0, .int .u32 2147483648] 43)) true (some ⟨g, 0, none⟩) 2 2 (-9223372036854775808) 2 true := by
  refine ZIs.plain ?_ (by decide) (by decide)
  rw [show Int.natAbs (-9223372036854775808) = 9223372036854775808 by decide, lmb_lo]
  exact Ints.lit .u32 4294967296 43 [0, 2147483648] hg rfl rfl (by decide)
theorem zis_hi (g : Nat) (w0 : World) (hg : g = w0.heap.size) : ZIs (w0.alloc (.cells #[.int .u32 4294967295, .int .u32 2147483647] 43)) false (some ⟨g, 0, none⟩) 2 2 9223372036854775807 2 true := by
  refine ZIs.plain ?_ (by decide) (by decide)
  rw [show Int.natAbs 9223372036854775807 = 9223372036854775807 by decide, lmb_hi]
  exact Ints.lit .u32 4294967296 43 [4294967295, 2147483647] hg rfl rfl (by decide)
theorem vl_drop_le (l : List Nat) (j : Nat) (h : j ≤ l.length) : vl (l.drop j) ≤ vl l := by
  have h1 := Num.val_take_drop 4294967296 l j h
  have h2 : 1 * vl (l.drop j) ≤ 4294967296 ^ j * vl (l.drop j) := Nat.mul_le_mul_right _ (Nat.pow_pos (by decide))
  unfold vl at *
  omega
set_option maxRecDepth 100000 in
set_option maxHeartbeats 3200000 in
theorem rzsmall {w : World} {a : Bool} {A : Option Addr} {n c : Nat} {x : Int} {i : Nat} {p : Bool} (ha : ZIs w a A n c x i p) (hi : i ≤ 262144) :
    Calls Tryd.prog 7 #[.agg #[.bool a, .slice A n c]] w fun e w' => e = .returned (.tuple #[.int .i64 (zsm x), .bool (zin x)]) ∧ Below w.heap.size w w' := by
  have E1 := (((Env.nil_ w).add ha).alloc 24 #[.bool a, .slice A n c] (g := w.heap.size) rfl rfl)
  go_enter Tryd.func7, Tryd.ntmps7
  go_wp2_with fail
  refine (rzplain (E1.z 0 rfl) (by omega) (Nat.le_refl _)).mono ?_; rintro e w1 ⟨b1, A1, n1, c1, rfl, z1, hb1⟩
  have E2 := (((E1.below hb1).add z1).alloc 24 #[.bool b1, .slice A1 n1 c1] (g := w1.heap.size) rfl rfl)
  have a20 := E2.cell 0 0 rfl rfl
  have a21 := E2.cell 0 1 rfl rfl
  go_wp2_with fail
  refine (rzcmp ((E2.other _).z 0 rfl) (zis_lo _ _ (by simp)) (by omega) (by omega)).mono ?_; rintro e w3 ⟨rfl, hb3⟩
  have E3 := (E2.other _).below hb3
  clear a20 a21
  have a20 := E3.cell 0 0 rfl rfl
  have a21 := E3.cell 0 1 rfl rfl
  by_cases h1 : x < -9223372036854775808
  · rw [zcmp_lt h1]
    have HY := Lib.hid (zin_no (fun ⟨h, _⟩ => by omega : ¬ (-9223372036854775808 ≤ x ∧ x ≤ 9223372036854775807)))
    clear h1
    go_wp2_with fail
    go_ret2
    rw [HY.out.1, HY.out.2]
    exact ⟨rfl, E3.bel⟩
  · have hc : ¬ zcmp x (-9223372036854775808) < 0 := by
      rcases Int.lt_trichotomy x (-9223372036854775808) with h | h | h
      · omega
      · rw [h, zcmp_eq]; decide
      · rw [zcmp_gt h]; decide
    obtain ⟨q, hq⟩ : ∃ q, zcmp x (-9223372036854775808) = q := ⟨_, rfl⟩
    rw [hq] at hc
    rw [hq]
    clear hq
    go_wp2_with fail
    refine (rzcmp ((E3.other _).z 0 rfl) (zis_hi _ _ (by simp)) (by omega) (by omega)).mono ?_; rintro e w4 ⟨rfl, hb4⟩
    have E4 := (E3.other _).below hb4
    clear a20 a21
    have a20 := E4.cell 0 0 rfl rfl
    have a21 := E4.cell 0 1 rfl rfl
    by_cases h2 : 9223372036854775807 < x
    · rw [zcmp_gt h2]
      have HY := Lib.hid (zin_no (fun ⟨_, h⟩ => by omega : ¬ (-9223372036854775808 ≤ x ∧ x ≤ 9223372036854775807)))
      clear h1 h2
      go_wp2_with fail
      go_ret2
      rw [HY.out.1, HY.out.2]
      exact ⟨rfl, E4.bel⟩
    · have hc2 : ¬ 0 < zcmp x 9223372036854775807 := by
        rcases Int.lt_trichotomy x 9223372036854775807 with h | h | h
        · rw [zcmp_lt h]; decide
        · rw [h, zcmp_eq]; decide
        · omega
      obtain ⟨q2, hq2⟩ : ∃ q2, zcmp x 9223372036854775807 = q2 := ⟨_, rfl⟩
      rw [hq2] at hc2
      rw [hq2]
      clear hq2
      obtain ⟨hl4, hs4⟩ := (E4.z 0 rfl).limbs
      have hlen := hl4.len
      have hnb := (E4.z 0 rfl).few
      have hnb : n1 ≤ 1048576 := by omega
      have HY := Lib.hid (zin_yes (x := x) (by omega) (by omega))
      rcases Int.lt_or_le x 0 with hneg | hneg
      · rw [decide_eq_true hneg] at hs4
        subst hs4
        have HX := Lib.hid (show -((x.natAbs : Nat) : Int) = x by omega)
        have HM := Lib.hid (show x.natAbs ≤ 9223372036854775808 by omega)
        clear h1 h2 hneg
        have b0 := E4.cell 0 0 rfl rfl
        have b1 := E4.cell 0 1 rfl rfl
        clear a20 a21
        go_wp2_with fail
        go_loopw [5, 6] (fun nv iv wk => ∃ j : Nat, j ≤ n1 ∧ nv = .int .i64 (-((vl ((lmb x.natAbs).drop j) : Nat) : Int)) ∧ iv = .int .i64 ((j : Int) - 1) ∧ wk = w4) (fun _ iv _ => (intOf iv + 1).toNat)
        case atStart =>
          refine ⟨n1, Nat.le_refl _, ?_, rfl, rfl⟩
          rw [← hlen, List.drop_length]; rfl
        case round =>
          obtain ⟨j, hj, rfl, rfl, rfl⟩ := hrel
          rcases Nat.eq_zero_or_pos j with hj0 | hj0
          · subst hj0
            rw [List.drop_zero, vl_lmb]
            have hf := HX.out
            obtain ⟨v, hv⟩ : ∃ v, x.natAbs = v := ⟨_, rfl⟩
            rw [hv] at hf
            rw [hv]
            have HF := Lib.hid hf
            clear hf hv
            go_wp2_with fail
            go_ret2
            rw [HY.out.1, HY.out.2, HF.out]
            exact ⟨rfl, E4.bel⟩
          · obtain ⟨i, rfl⟩ : ∃ i, j = i + 1 := ⟨j - 1, by omega⟩
            have ei : ((i + 1 : Nat) : Int) - 1 = (i : Int) := by omega
            rw [ei]
            obtain ⟨gC, oC, d, rfl, hgC, hd, hdl, hcd⟩ := hl4.get (k := i) (by omega)
            have hds := Num.val_drop_pred 4294967296 hd
            have hle := vl_drop_le (lmb x.natAbs) i (by omega)
            rw [vl_lmb] at hle
            obtain ⟨V, hV⟩ : ∃ V, vl ((lmb x.natAbs).drop (i + 1)) = V := ⟨_, rfl⟩
            have hds : vl ((lmb x.natAbs).drop i) = d + 4294967296 * V := by rw [← hV]; exact hds
            have hM := HM.out
            rw [hV]
            have w1_ : IntKind.i64.wrap (-((V : Nat) : Int) * 65536) = -((V : Nat) : Int) * 65536 := IntWalk.i64_in _ (by omega)
            have w2_ : IntKind.i64.wrap (-((V : Nat) : Int) * 65536 * 65536) = -((V : Nat) : Int) * 65536 * 65536 := IntWalk.i64_in _ (by omega)
            have w3_ : IntKind.i64.wrap (d : Int) = (d : Int) := IntWalk.i64_in _ (by omega)
            have w4_ : IntKind.i64.wrap (-((V : Nat) : Int) * 65536 * 65536 - (d : Int)) = -((d + 4294967296 * V : Nat) : Int) := IntWalk.i64_in _ (by omega) |>.trans (by omega)
            have HW := Lib.hid hds
            have hi0 : (0 : Int) ≤ (i : Int) := by omega
            have him : (i : Int) < (n1 : Int) := by omega
            clear hds hle hV hd ei hM
            go_wp2_with fail
            exact ⟨⟨i, by omega, by rw [HW.out]; exact congrArg (Value.int .i64) (by omega), rfl, trivial⟩, by simp [intOf]⟩
      · rw [decide_eq_false (by omega)] at hs4
        subst hs4
        have HX := Lib.hid (show ((x.natAbs : Nat) : Int) = x by omega)
        have HM := Lib.hid (show x.natAbs ≤ 9223372036854775807 by omega)
        clear h1 h2 hneg
        have b0 := E4.cell 0 0 rfl rfl
        have b1 := E4.cell 0 1 rfl rfl
        clear a20 a21
        go_wp2_with fail
        go_loopw [5, 6] (fun nv iv wk => ∃ j : Nat, j ≤ n1 ∧ nv = .int .i64 (((vl ((lmb x.natAbs).drop j) : Nat) : Int)) ∧ iv = .int .i64 ((j : Int) - 1) ∧ wk = w4) (fun _ iv _ => (intOf iv + 1).toNat)
        case atStart =>
          refine ⟨n1, Nat.le_refl _, ?_, rfl, rfl⟩
          rw [← hlen, List.drop_length]; rfl
        case round =>
          obtain ⟨j, hj, rfl, rfl, rfl⟩ := hrel
          rcases Nat.eq_zero_or_pos j with hj0 | hj0
          · subst hj0
            rw [List.drop_zero, vl_lmb]
            have hf := HX.out
            obtain ⟨v, hv⟩ : ∃ v, x.natAbs = v := ⟨_, rfl⟩
            rw [hv] at hf
            rw [hv]
            have HF := Lib.hid hf
            clear hf hv
            go_wp2_with fail
            go_ret2
            rw [HY.out.1, HY.out.2, HF.out]
            exact ⟨rfl, E4.bel⟩
          · obtain ⟨i, rfl⟩ : ∃ i, j = i + 1 := ⟨j - 1, by omega⟩
            have ei : ((i + 1 : Nat) : Int) - 1 = (i : Int) := by omega
            rw [ei]
            obtain ⟨gC, oC, d, rfl, hgC, hd, hdl, hcd⟩ := hl4.get (k := i) (by omega)
            have hds := Num.val_drop_pred 4294967296 hd
            have hle := vl_drop_le (lmb x.natAbs) i (by omega)
            rw [vl_lmb] at hle
            obtain ⟨V, hV⟩ : ∃ V, vl ((lmb x.natAbs).drop (i + 1)) = V := ⟨_, rfl⟩
            have hds : vl ((lmb x.natAbs).drop i) = d + 4294967296 * V := by rw [← hV]; exact hds
            have hM := HM.out
            rw [hV]
            have w1_ : IntKind.i64.wrap (((V : Nat) : Int) * 65536) = ((V : Nat) : Int) * 65536 := IntWalk.i64_in _ (by omega)
            have w2_ : IntKind.i64.wrap (((V : Nat) : Int) * 65536 * 65536) = ((V : Nat) : Int) * 65536 * 65536 := IntWalk.i64_in _ (by omega)
            have w3_ : IntKind.i64.wrap (d : Int) = (d : Int) := IntWalk.i64_in _ (by omega)
            have w4_ : IntKind.i64.wrap (((V : Nat) : Int) * 65536 * 65536 + (d : Int)) = ((d + 4294967296 * V : Nat) : Int) := IntWalk.i64_in _ (by omega) |>.trans (by omega)
            have HW := Lib.hid hds
            have hi0 : (0 : Int) ≤ (i : Int) := by omega
            have him : (i : Int) < (n1 : Int) := by omega
            clear hds hle hV hd ei hM
            go_wp2_with fail
            exact ⟨⟨i, by omega, by rw [HW.out]; exact congrArg (Value.int .i64) (by omega), rfl, trivial⟩, by simp [intOf]⟩

end Go.Proofs.YticjhlbmdjijnaaDoor

/- The contract of whole.Small. No condition but the reach of a slice. -/
namespace Go.Proofs.YticjhlbmdjijnaaDoor
open Go.RowKit

set_option maxRecDepth 100000 in
set_option maxHeartbeats 1600000 in
theorem zin_any {w : World} {b : Bool} {A : Option Addr} {n c : Nat} {x : Int} {i : Nat} {p : Bool} (g : Nat) (hg : Blk w g 24 #[.bool b, .slice A n c]) (ha : ZIs w b A n c x i p) (hi : i ≤ 262144) (z : Int) (h1 : -9223372036854775808 ≤ z) (h2 : z ≤ 9223372036854775807) :
    Calls Tryd.prog 21 #[.int .i64 z, .pointer (some ⟨g, 0, none⟩)] w fun e w' => e = .returned (.bool (decide (x = z))) ∧ Below w.heap.size w w' := by
  have hof := fun w0 => zof z w0 h1 h2
  have q0 := hg.drew
  have s0 := And.intro q0.c0 q0.c1
  have E0 := ((Env.nil_ w).add ha).drew
  have he : (zcmp x z == 0) = decide (x = z) := by
    rcases Int.lt_trichotomy x z with h | h | h
    · rw [zcmp_lt h, decide_eq_false (by omega)]; rfl
    · rw [h, zcmp_eq, decide_eq_true rfl]; rfl
    · rw [zcmp_gt h, decide_eq_false (by omega)]; rfl
  obtain ⟨q, hq⟩ : ∃ q, zcmp x z = q := ⟨_, rfl⟩
  obtain ⟨r, hr⟩ : ∃ r, decide (x = z) = r := ⟨_, rfl⟩
  rw [hq, hr] at he
  rw [hr]
  have HQ := Lib.hid hq
  clear hq hr h1 h2
  go_enter Tryd.func21, Tryd.ntmps21
  go_wp2_with fail
  go_region_held3 (fun w' => w'.cell? ⟨g, 0, none⟩ = some (.bool b) ∧ w'.cell? ⟨g, 1, none⟩ = some (.slice A n c))
    (with_reducible assumption)
    ((first
      | (go_at_call_has 8 (Value.int IntKind.i64 z); refine (hof _).mono ?_; rintro e w1 ⟨b1, A1, n1, rfl, z1, hb1⟩; have q1 := q0.below hb1 q0.lt; have s1 := And.intro q1.c0 q1.c1; have E1 := (E0.below hb1).add z1)
      | (go_at_call_has 19 (Value.slice A1 n1 n1); refine (zcmp_ (E1.z 1 rfl) (E1.z 0 rfl) (by omega) (by omega)).mono ?_; rintro e w2 ⟨rfl, hb2⟩; have q2 := q1.below hb2 q1.lt; have s2 := And.intro q2.c0 q2.c1; rw [HQ.out]; have E2 := E1.below hb2)))
  go_wp2_with fail
  go_ret
  exact ⟨rfl, E2.bel⟩
set_option maxRecDepth 100000 in
set_option maxHeartbeats 6400000 in
theorem zsmall {w : World} {a : Bool} {A : Option Addr} {n c : Nat} {x : Int} {i : Nat} {p : Bool} (ha : ZIs w a A n c x i p) (hi : i ≤ 262144) :
    Calls Tryd.prog 6 #[.agg #[.bool a, .slice A n c]] w fun e w' => e = .returned (.tuple #[.int .i64 (zsm x), .bool (zin x)]) ∧ Below w.heap.size w w' := by
  have E1 := (((Env.nil_ w).add ha).alloc 24 #[.bool a, .slice A n c] (g := w.heap.size) rfl rfl)
  go_enter Tryd.func6, Tryd.ntmps6
  go_wp2_with fail
  refine (zplain (E1.z 0 rfl) (by omega) (Nat.le_refl _)).mono ?_; rintro e w1 ⟨b1, A1, n1, rfl, z1, hb1⟩
  have E1b := (E1.below hb1).add z1
  have ka0 := E1b.cell 0 0 rfl rfl
  have ka1 := E1b.cell 0 1 rfl rfl
  have fa0 := E1b.frozen 0 0 rfl
  have fa1 := E1b.frozen 0 1 rfl
  have E2 := E1b.st2 0 (.bool b1) (.slice A1 n1 n1) rfl rfl rfl
  have hlo := fun w0 => zof (-9223372036854775808) w0 (by decide) (by decide)
  have hhi := fun w0 => zof 9223372036854775807 w0 (by decide) (by decide)
  have hs1 := Lib.hid z1.limbs.2
  go_wp2_with fail
  have R0 := E2.drew
  have s0 := And.intro (R0.cell 0 0 rfl rfl) (R0.cell 0 1 rfl rfl)
  clear ka0 ka1 fa0 fa1
  by_cases h1 : x < -9223372036854775808
  · have HY := Lib.hid (zin_no (fun ⟨h, _⟩ => by omega : ¬ (-9223372036854775808 ≤ x ∧ x ≤ 9223372036854775807)))
    have hz1 := zcmp_lt h1
    clear h1
    have d0' := R0.cell 0 0 rfl rfl
    have d1' := R0.cell 0 1 rfl rfl
    go_region_with (first
        | (go_at_call_has 8 (Value.int IntKind.i64 (-9223372036854775808)); refine (hlo _).mono ?_; rintro e w2 ⟨b2, A2, n2, rfl, z2, hb2⟩; have R1 := (R0.below hb2).add z2; have d0 := R1.cell 0 0 rfl rfl; have d1 := R1.cell 0 1 rfl rfl)
        | (go_at_call_has 19 (Value.slice A2 n2 n2); refine (zcmp_ (R1.z 1 rfl) (R1.z 0 rfl) (by omega) (by omega)).mono ?_; rintro e w3 ⟨rfl, hb3⟩; have R2 := R1.below hb3; rw [hz1]))
    all_goals
      go_wp2_with fail
      go_ret2
      rw [HY.out.1, HY.out.2]
      exact ⟨rfl, R2.bel⟩
  · have hc : ¬ zcmp x (-9223372036854775808) < 0 := by
      rcases Int.lt_trichotomy x (-9223372036854775808) with h | h | h
      · omega
      · rw [h, zcmp_eq]; decide
      · rw [zcmp_gt h]; decide
    obtain ⟨q, hq⟩ : ∃ q, zcmp x (-9223372036854775808) = q := ⟨_, rfl⟩
    rw [hq] at hc
    have hq01 : q = 0 ∨ q = 1 := by
      have := zcmp_range x (-9223372036854775808)
      rw [hq] at this
      omega
    clear hc
    rcases hq01 with rfl | rfl
    · skip
      by_cases h2 : 9223372036854775807 < x
      · have HY := Lib.hid (zin_no (fun ⟨_, h⟩ => by omega : ¬ (-9223372036854775808 ≤ x ∧ x ≤ 9223372036854775807)))
        have hz2 := zcmp_gt h2
        have HQ := Lib.hid hq
        clear h1 h2 hq
        go_region_held3 (fun w' => w'.cell? ⟨w.heap.size, 0, none⟩ = some (.bool b1) ∧ w'.cell? ⟨w.heap.size, 1, none⟩ = some (.slice A1 n1 n1))
          (with_reducible assumption)
          ((first
            | (go_at_call_has 8 (Value.int IntKind.i64 (-9223372036854775808)); refine (hlo _).mono ?_; rintro e w2 ⟨b2, A2, n2, rfl, z2, hb2⟩; have R1 := (R0.below hb2).add z2; have s1 := And.intro (R1.cell 0 0 rfl rfl) (R1.cell 0 1 rfl rfl))
            | (go_at_call_has 19 (Value.slice A2 n2 n2); refine (zcmp_ (R1.z 1 rfl) (R1.z 0 rfl) (by omega) (by omega)).mono ?_; rintro e w3 ⟨rfl, hb3⟩; have R2 := R1.below hb3; have s2 := And.intro (R2.cell 0 0 rfl rfl) (R2.cell 0 1 rfl rfl); rw [HQ.out])
            | (go_at_call_has 8 (Value.int IntKind.i64 9223372036854775807); refine (hhi _).mono ?_; rintro e w4 ⟨b4, A4, n4, rfl, z4, hb4⟩; have R3 := (R2.below hb4).add z4; have s3 := And.intro (R3.cell 0 0 rfl rfl) (R3.cell 0 1 rfl rfl))
            | (go_at_call_has 19 (Value.slice A4 n4 n4); refine (zcmp_ (R3.z 2 rfl) (R3.z 0 rfl) (by omega) (by omega)).mono ?_; rintro e w5 ⟨rfl, hb5⟩; have R4 := R3.below hb5; have s4 := And.intro (R4.cell 0 0 rfl rfl) (R4.cell 0 1 rfl rfl); rw [hz2])))
        go_wp2_with fail
        go_ret2
        rw [HY.out.1, HY.out.2]
        exact ⟨rfl, R4.bel⟩
      · have hc2 : ¬ 0 < zcmp x 9223372036854775807 := by
          rcases Int.lt_trichotomy x 9223372036854775807 with h | h | h
          · rw [zcmp_lt h]; decide
          · rw [h, zcmp_eq]; decide
          · omega
        obtain ⟨q2, hq2⟩ : ∃ q2, zcmp x 9223372036854775807 = q2 := ⟨_, rfl⟩
        rw [hq2] at hc2
        have HQ := Lib.hid hq
        have HQ2 := Lib.hid hq2
        have HR := Lib.hid (And.intro h1 h2)
        clear h1 h2 hq hq2
        go_region_held3 (fun w' => w'.cell? ⟨w.heap.size, 0, none⟩ = some (.bool b1) ∧ w'.cell? ⟨w.heap.size, 1, none⟩ = some (.slice A1 n1 n1))
          (with_reducible assumption)
          ((first
            | (go_at_call_has 8 (Value.int IntKind.i64 (-9223372036854775808)); refine (hlo _).mono ?_; rintro e w2 ⟨b2, A2, n2, rfl, z2, hb2⟩; have R1 := (R0.below hb2).add z2; have s1 := And.intro (R1.cell 0 0 rfl rfl) (R1.cell 0 1 rfl rfl))
            | (go_at_call_has 19 (Value.slice A2 n2 n2); refine (zcmp_ (R1.z 1 rfl) (R1.z 0 rfl) (by omega) (by omega)).mono ?_; rintro e w3 ⟨rfl, hb3⟩; have R2 := R1.below hb3; have s2 := And.intro (R2.cell 0 0 rfl rfl) (R2.cell 0 1 rfl rfl); rw [HQ.out])
            | (go_at_call_has 8 (Value.int IntKind.i64 9223372036854775807); refine (hhi _).mono ?_; rintro e w4 ⟨b4, A4, n4, rfl, z4, hb4⟩; have R3 := (R2.below hb4).add z4; have s3 := And.intro (R3.cell 0 0 rfl rfl) (R3.cell 0 1 rfl rfl))
            | (go_at_call_has 19 (Value.slice A4 n4 n4); refine (zcmp_ (R3.z 2 rfl) (R3.z 0 rfl) (by omega) (by omega)).mono ?_; rintro e w5 ⟨rfl, hb5⟩; have R4 := R3.below hb5; have s4 := And.intro (R4.cell 0 0 rfl rfl) (R4.cell 0 1 rfl rfl); rw [HQ2.out])))
        have hl5 := (R4.z 2 rfl).limbs.1
        have hlen := hl5.len
        have hx64 : x.natAbs < 4294967296 ^ 2 := by have := HR.out; omega
        have hn2 : n1 ≤ 2 := by rw [← hlen]; exact Num.dig_len_le (by decide) 2 _ hx64
        have g0 := R4.cell 0 0 rfl rfl
        have g1 := R4.cell 0 1 rfl rfl
        have HX64 := Lib.hid hx64
        have hvl : vl (lmb x.natAbs) = x.natAbs := vl_lmb _
        clear hx64 s0
        go_wp2_with fail
        go_loopw [5, 25] (fun mv iv wk => ∃ j : Nat, j ≤ n1 ∧ mv = .int .u64 ((vl ((lmb x.natAbs).take j) : Nat) : Int) ∧ iv = .int .i64 (j : Int) ∧ wk = w5) (fun _ iv _ => n1 - (intOf iv).toNat)
        case atStart => exact ⟨0, Nat.zero_le _, rfl, rfl, rfl⟩
        case round =>
          obtain ⟨j, hj, rfl, rfl, rfl⟩ := hrel
          rcases Nat.lt_or_ge j n1 with hjn | hjn
          · obtain ⟨gC, oC, d, rfl, hgC, hd, hdl, hcd⟩ := hl5.get (k := j) hjn
            have hjn' : (j : Int) < (n1 : Int) := by omega
            rcases (show j = 0 ∨ j = 1 by omega) with rfl | rfl
            · rw [Nat.add_zero] at hcd
              have e0 : vl ((lmb x.natAbs).take 0) = 0 := rfl
              rw [e0]
              go_wp2_with fail
              refine ⟨⟨1, by omega, ?_, rfl, trivial⟩, by simp [intOf]; omega⟩
              have h1 := Num.val_take_succ 4294967296 hd
              have h2 := u64_or_nat 0 d (by omega) (by omega)
              rw [Nat.zero_or] at h2
              refine congrArg (Value.int .u64) (h2.trans ?_)
              congr 1
              unfold vl
              rw [h1]
              simp [Num.val]
            · obtain ⟨V, hV⟩ : ∃ V, vl ((lmb x.natAbs).take 1) = V := ⟨_, rfl⟩
              have hVl : V < 4294967296 := by
                rw [← hV]
                have h1 := Num.val_lt 4294967296 ((lmb x.natAbs).take 1) (fun y hy => hl5.lt y (List.mem_of_mem_take hy))
                rw [List.length_take, hlen, Nat.min_eq_left (by omega), Nat.pow_one] at h1
                exact h1
              rw [hV]
              have HVV := Lib.hid hV
              have HD := Lib.hid hd
              clear hV hd
              go_wp2_with fail
              refine ⟨⟨2, by omega, ?_, rfl, trivial⟩, by simp [intOf]; omega⟩
              have h1 := Num.val_take_succ 4294967296 HD.out
              have h2 := u64_or_nat V (d * 4294967296) (by omega) (by omega)
              rw [Nat.or_comm, nat_join 32 _ _ (by omega) (by omega), Int.natCast_mul] at h2
              refine congrArg (Value.int .u64) (h2.trans ?_)
              congr 1
              have h3 : vl ((lmb x.natAbs).take (1 + 1)) = vl ((lmb x.natAbs).take 1) + 4294967296 ^ 1 * d := h1
              rw [show (2 : Nat) = 1 + 1 from rfl, h3, HVV.out]
              omega
          · obtain rfl : j = n1 := by omega
            rw [← hlen, List.take_length, hvl]
            have hrg := HR.out
            rcases Int.lt_or_le x 0 with hneg | hneg
            · obtain ⟨v, rfl⟩ : ∃ v : Nat, x = -(v : Int) := ⟨x.natAbs, by omega⟩
              obtain rfl : b1 = true := by rw [hs1.out]; exact decide_eq_true hneg
              have e1 : Int.natAbs (-(v : Int)) = v := by omega
              have e2 : IntKind.u64.wrap (-(v : Int)) = 18446744073709551616 - (v : Int) := by rw [IntKind.wrap_u64]; omega
              have e3 : IntKind.i64.wrap (18446744073709551616 - (v : Int)) = -(v : Int) := by rw [IntKind.wrap_i64]; omega
              obtain ⟨y0, hy0⟩ : ∃ y0, IntKind.i64.wrap (v : Int) = y0 := ⟨_, rfl⟩
              rw [e1]
              have HRG := Lib.hid hrg
              clear hrg hneg hvl e1
              go_wp2_with fail
              refine (zin_any w.heap.size (R4.b 0 rfl) (R4.z 2 rfl) (by omega) (-(v : Int)) (by have := HRG.out.1; omega) (by omega)).mono ?_; rintro e w6 ⟨rfl, hb6⟩
              have R5 := R4.below hb6
              have HY := Lib.hid (zin_yes (x := -(v : Int)) (by have := HRG.out.1; omega) (by omega))
              go_wp2_with fail
              go_ret2
              rw [HY.out.1, HY.out.2]
              exact ⟨by simp, R5.bel⟩
            · obtain ⟨v, rfl⟩ : ∃ v : Nat, x = (v : Int) := ⟨x.natAbs, by omega⟩
              obtain rfl : b1 = false := by rw [hs1.out]; exact decide_eq_false (by omega)
              have e1 : Int.natAbs (v : Int) = v := by omega
              have e3 : IntKind.i64.wrap (v : Int) = (v : Int) := by rw [IntKind.wrap_i64]; omega
              rw [e1]
              clear hneg hvl e1
              have HRG := Lib.hid hrg
              clear hrg
              go_wp2_with fail
              refine (zin_any w.heap.size (R4.b 0 rfl) (R4.z 2 rfl) (by omega) (v : Int) (by omega) (by have := HRG.out.2; omega)).mono ?_; rintro e w6 ⟨rfl, hb6⟩
              have R5 := R4.below hb6
              have HY := Lib.hid (zin_yes (x := (v : Int)) (by omega) (by have := HRG.out.2; omega))
              go_wp2_with fail
              go_ret2
              rw [HY.out.1, HY.out.2]
              exact ⟨by simp, R5.bel⟩
    · skip
      by_cases h2 : 9223372036854775807 < x
      · have HY := Lib.hid (zin_no (fun ⟨_, h⟩ => by omega : ¬ (-9223372036854775808 ≤ x ∧ x ≤ 9223372036854775807)))
        have hz2 := zcmp_gt h2
        have HQ := Lib.hid hq
        clear h1 h2 hq
        go_region_held3 (fun w' => w'.cell? ⟨w.heap.size, 0, none⟩ = some (.bool b1) ∧ w'.cell? ⟨w.heap.size, 1, none⟩ = some (.slice A1 n1 n1))
          (with_reducible assumption)
          ((first
            | (go_at_call_has 8 (Value.int IntKind.i64 (-9223372036854775808)); refine (hlo _).mono ?_; rintro e w2 ⟨b2, A2, n2, rfl, z2, hb2⟩; have R1 := (R0.below hb2).add z2; have s1 := And.intro (R1.cell 0 0 rfl rfl) (R1.cell 0 1 rfl rfl))
            | (go_at_call_has 19 (Value.slice A2 n2 n2); refine (zcmp_ (R1.z 1 rfl) (R1.z 0 rfl) (by omega) (by omega)).mono ?_; rintro e w3 ⟨rfl, hb3⟩; have R2 := R1.below hb3; have s2 := And.intro (R2.cell 0 0 rfl rfl) (R2.cell 0 1 rfl rfl); rw [HQ.out])
            | (go_at_call_has 8 (Value.int IntKind.i64 9223372036854775807); refine (hhi _).mono ?_; rintro e w4 ⟨b4, A4, n4, rfl, z4, hb4⟩; have R3 := (R2.below hb4).add z4; have s3 := And.intro (R3.cell 0 0 rfl rfl) (R3.cell 0 1 rfl rfl))
            | (go_at_call_has 19 (Value.slice A4 n4 n4); refine (zcmp_ (R3.z 2 rfl) (R3.z 0 rfl) (by omega) (by omega)).mono ?_; rintro e w5 ⟨rfl, hb5⟩; have R4 := R3.below hb5; have s4 := And.intro (R4.cell 0 0 rfl rfl) (R4.cell 0 1 rfl rfl); rw [hz2])))
        go_wp2_with fail
        go_ret2
        rw [HY.out.1, HY.out.2]
        exact ⟨rfl, R4.bel⟩
      · have hc2 : ¬ 0 < zcmp x 9223372036854775807 := by
          rcases Int.lt_trichotomy x 9223372036854775807 with h | h | h
          · rw [zcmp_lt h]; decide
          · rw [h, zcmp_eq]; decide
          · omega
        obtain ⟨q2, hq2⟩ : ∃ q2, zcmp x 9223372036854775807 = q2 := ⟨_, rfl⟩
        rw [hq2] at hc2
        have HQ := Lib.hid hq
        have HQ2 := Lib.hid hq2
        have HR := Lib.hid (And.intro h1 h2)
        clear h1 h2 hq hq2
        go_region_held3 (fun w' => w'.cell? ⟨w.heap.size, 0, none⟩ = some (.bool b1) ∧ w'.cell? ⟨w.heap.size, 1, none⟩ = some (.slice A1 n1 n1))
          (with_reducible assumption)
          ((first
            | (go_at_call_has 8 (Value.int IntKind.i64 (-9223372036854775808)); refine (hlo _).mono ?_; rintro e w2 ⟨b2, A2, n2, rfl, z2, hb2⟩; have R1 := (R0.below hb2).add z2; have s1 := And.intro (R1.cell 0 0 rfl rfl) (R1.cell 0 1 rfl rfl))
            | (go_at_call_has 19 (Value.slice A2 n2 n2); refine (zcmp_ (R1.z 1 rfl) (R1.z 0 rfl) (by omega) (by omega)).mono ?_; rintro e w3 ⟨rfl, hb3⟩; have R2 := R1.below hb3; have s2 := And.intro (R2.cell 0 0 rfl rfl) (R2.cell 0 1 rfl rfl); rw [HQ.out])
            | (go_at_call_has 8 (Value.int IntKind.i64 9223372036854775807); refine (hhi _).mono ?_; rintro e w4 ⟨b4, A4, n4, rfl, z4, hb4⟩; have R3 := (R2.below hb4).add z4; have s3 := And.intro (R3.cell 0 0 rfl rfl) (R3.cell 0 1 rfl rfl))
            | (go_at_call_has 19 (Value.slice A4 n4 n4); refine (zcmp_ (R3.z 2 rfl) (R3.z 0 rfl) (by omega) (by omega)).mono ?_; rintro e w5 ⟨rfl, hb5⟩; have R4 := R3.below hb5; have s4 := And.intro (R4.cell 0 0 rfl rfl) (R4.cell 0 1 rfl rfl); rw [HQ2.out])))
        have hl5 := (R4.z 2 rfl).limbs.1
        have hlen := hl5.len
        have hx64 : x.natAbs < 4294967296 ^ 2 := by have := HR.out; omega
        have hn2 : n1 ≤ 2 := by rw [← hlen]; exact Num.dig_len_le (by decide) 2 _ hx64
        have g0 := R4.cell 0 0 rfl rfl
        have g1 := R4.cell 0 1 rfl rfl
        have HX64 := Lib.hid hx64
        have hvl : vl (lmb x.natAbs) = x.natAbs := vl_lmb _
        clear hx64 s0
        go_wp2_with fail
        go_loopw [5, 25] (fun mv iv wk => ∃ j : Nat, j ≤ n1 ∧ mv = .int .u64 ((vl ((lmb x.natAbs).take j) : Nat) : Int) ∧ iv = .int .i64 (j : Int) ∧ wk = w5) (fun _ iv _ => n1 - (intOf iv).toNat)
        case atStart => exact ⟨0, Nat.zero_le _, rfl, rfl, rfl⟩
        case round =>
          obtain ⟨j, hj, rfl, rfl, rfl⟩ := hrel
          rcases Nat.lt_or_ge j n1 with hjn | hjn
          · obtain ⟨gC, oC, d, rfl, hgC, hd, hdl, hcd⟩ := hl5.get (k := j) hjn
            have hjn' : (j : Int) < (n1 : Int) := by omega
            rcases (show j = 0 ∨ j = 1 by omega) with rfl | rfl
            · rw [Nat.add_zero] at hcd
              have e0 : vl ((lmb x.natAbs).take 0) = 0 := rfl
              rw [e0]
              go_wp2_with fail
              refine ⟨⟨1, by omega, ?_, rfl, trivial⟩, by simp [intOf]; omega⟩
              have h1 := Num.val_take_succ 4294967296 hd
              have h2 := u64_or_nat 0 d (by omega) (by omega)
              rw [Nat.zero_or] at h2
              refine congrArg (Value.int .u64) (h2.trans ?_)
              congr 1
              unfold vl
              rw [h1]
              simp [Num.val]
            · obtain ⟨V, hV⟩ : ∃ V, vl ((lmb x.natAbs).take 1) = V := ⟨_, rfl⟩
              have hVl : V < 4294967296 := by
                rw [← hV]
                have h1 := Num.val_lt 4294967296 ((lmb x.natAbs).take 1) (fun y hy => hl5.lt y (List.mem_of_mem_take hy))
                rw [List.length_take, hlen, Nat.min_eq_left (by omega), Nat.pow_one] at h1
                exact h1
              rw [hV]
              have HVV := Lib.hid hV
              have HD := Lib.hid hd
              clear hV hd
              go_wp2_with fail
              refine ⟨⟨2, by omega, ?_, rfl, trivial⟩, by simp [intOf]; omega⟩
              have h1 := Num.val_take_succ 4294967296 HD.out
              have h2 := u64_or_nat V (d * 4294967296) (by omega) (by omega)
              rw [Nat.or_comm, nat_join 32 _ _ (by omega) (by omega), Int.natCast_mul] at h2
              refine congrArg (Value.int .u64) (h2.trans ?_)
              congr 1
              have h3 : vl ((lmb x.natAbs).take (1 + 1)) = vl ((lmb x.natAbs).take 1) + 4294967296 ^ 1 * d := h1
              rw [show (2 : Nat) = 1 + 1 from rfl, h3, HVV.out]
              omega
          · obtain rfl : j = n1 := by omega
            rw [← hlen, List.take_length, hvl]
            have hrg := HR.out
            rcases Int.lt_or_le x 0 with hneg | hneg
            · obtain ⟨v, rfl⟩ : ∃ v : Nat, x = -(v : Int) := ⟨x.natAbs, by omega⟩
              obtain rfl : b1 = true := by rw [hs1.out]; exact decide_eq_true hneg
              have e1 : Int.natAbs (-(v : Int)) = v := by omega
              have e2 : IntKind.u64.wrap (-(v : Int)) = 18446744073709551616 - (v : Int) := by rw [IntKind.wrap_u64]; omega
              have e3 : IntKind.i64.wrap (18446744073709551616 - (v : Int)) = -(v : Int) := by rw [IntKind.wrap_i64]; omega
              obtain ⟨y0, hy0⟩ : ∃ y0, IntKind.i64.wrap (v : Int) = y0 := ⟨_, rfl⟩
              rw [e1]
              have HRG := Lib.hid hrg
              clear hrg hneg hvl e1
              go_wp2_with fail
              refine (zin_any w.heap.size (R4.b 0 rfl) (R4.z 2 rfl) (by omega) (-(v : Int)) (by have := HRG.out.1; omega) (by omega)).mono ?_; rintro e w6 ⟨rfl, hb6⟩
              have R5 := R4.below hb6
              have HY := Lib.hid (zin_yes (x := -(v : Int)) (by have := HRG.out.1; omega) (by omega))
              go_wp2_with fail
              go_ret2
              rw [HY.out.1, HY.out.2]
              exact ⟨by simp, R5.bel⟩
            · obtain ⟨v, rfl⟩ : ∃ v : Nat, x = (v : Int) := ⟨x.natAbs, by omega⟩
              obtain rfl : b1 = false := by rw [hs1.out]; exact decide_eq_false (by omega)
              have e1 : Int.natAbs (v : Int) = v := by omega
              have e3 : IntKind.i64.wrap (v : Int) = (v : Int) := by rw [IntKind.wrap_i64]; omega
              rw [e1]
              clear hneg hvl e1
              have HRG := Lib.hid hrg
              clear hrg
              go_wp2_with fail
              refine (zin_any w.heap.size (R4.b 0 rfl) (R4.z 2 rfl) (by omega) (v : Int) (by omega) (by have := HRG.out.2; omega)).mono ?_; rintro e w6 ⟨rfl, hb6⟩
              have R5 := R4.below hb6
              have HY := Lib.hid (zin_yes (x := (v : Int)) (by omega) (by have := HRG.out.2; omega))
              go_wp2_with fail
              go_ret2
              rw [HY.out.1, HY.out.2]
              exact ⟨by simp, R5.bel⟩

end Go.Proofs.YticjhlbmdjijnaaDoor

/- What a law of layer 2 asks first. No condition. -/
namespace Go.Proofs.YticjhlbmdjijnaaDoor
open Go.RowKit

theorem zok_12 : zok [45, 49, 50] = true ∧ zpv [45, 49, 50] = -12 := by
  have h : ZReads [45, 49, 50] := by decide
  exact ⟨zok_yes h, by rw [zpv_yes h]; rfl⟩
theorem zok_m0 : zok [45, 48] = false ∧ zpv [45, 48] = 0 := by
  have h : ¬ ZReads [45, 48] := by decide
  exact ⟨zok_no h, zpv_no h⟩
theorem ztx_12 : str (ztx (-12)) = ⟨#[45, 49, 50]⟩ := by
  rw [ztx_neg (by decide), show Int.natAbs (-12) = 12 from rfl, decTxt_pos (by decide), show Num.dig 10 12 = [2, 1] from Num.dig_val (b := 10) (by decide) [2, 1] (by decide) (by intro x hx; cases hx; decide)]
  rfl
set_option maxRecDepth 100000 in
set_option maxHeartbeats 6400000 in
theorem wawake_any (w : World) : Calls Tryd.prog 4 #[] w fun e w' => e = .returned (.bool true) ∧ Below w.heap.size w w' := by
  have R0 := Env.nil_ w
  have hp1 := fun w0 => zparse [45, 49, 50] (by decide) w0 (by decide)
  have hp2 := fun w0 => zparse [45, 48] (by decide) w0 (by decide)
  rw [zok_12.1, zok_12.2, show str [45, 49, 50] = ⟨#[45, 49, 50]⟩ from rfl] at hp1
  rw [zok_m0.1, zok_m0.2, show str [45, 48] = ⟨#[45, 48]⟩ from rfl] at hp2
  go_enter Tryd.func4, Tryd.ntmps4
  go_wp2_with fail
  refine (zof (-7) _ (by decide) (by decide)).mono ?_
  rintro e w1 ⟨b_m7, A_m7, n_m7, rfl, z_m7, hb1⟩
  have R1 := ((R0.below hb1).add z_m7)
  go_wp2_with fail
  refine (zof (2) _ (by decide) (by decide)).mono ?_
  rintro e w2 ⟨b_p2, A_p2, n_p2, rfl, z_p2, hb2⟩
  have R2 := ((R1.below hb2).add z_p2)
  go_wp2_with fail
  refine (zdiv (K := 5) (L := 3) (R2.z 1 rfl) (R2.z 0 rfl) (by decide) (by decide) (by decide) (by decide) (by decide)).mono ?_
  rintro e w3 ⟨b_q, A_q, n_q, b_r, A_r, n_r, rfl, z_q, z_r, hb3⟩
  have R3 := (((((R2.below hb3).add z_q).add z_r).alloc 24 #[.bool b_q, .slice A_q n_q n_q] (g := w3.heap.size) rfl rfl).alloc 24 #[.bool b_r, .slice A_r n_r n_r] (g := w3.heap.size + 1) (by simp) rfl)
  go_wp2_with fail
  refine (zof (7) _ (by decide) (by decide)).mono ?_
  rintro e w4 ⟨b_p7, A_p7, n_p7, rfl, z_p7, hb4⟩
  have R4 := ((R3.below hb4).add z_p7)
  go_wp2_with fail
  refine (zof (-2) _ (by decide) (by decide)).mono ?_
  rintro e w5 ⟨b_m2, A_m2, n_m2, rfl, z_m2, hb5⟩
  have R5 := ((R4.below hb5).add z_m2)
  go_wp2_with fail
  refine (zdiv (K := 5) (L := 3) (R5.z 1 rfl) (R5.z 0 rfl) (by decide) (by decide) (by decide) (by decide) (by decide)).mono ?_
  rintro e w6 ⟨b_s, A_s, n_s, b_t, A_t, n_t, rfl, z_s, z_t, hb6⟩
  have R6 := (((((R5.below hb6).add z_s).add z_t).alloc 24 #[.bool b_s, .slice A_s n_s n_s] (g := w6.heap.size) rfl rfl).alloc 24 #[.bool b_t, .slice A_t n_t n_t] (g := w6.heap.size + 1) (by simp) rfl)
  go_wp2_with fail
  refine (zof (-9223372036854775808) _ (by decide) (by decide)).mono ?_
  rintro e w7 ⟨b_lo, A_lo, n_lo, rfl, z_lo, hb7⟩
  have R7 := ((R6.below hb7).add z_lo)
  go_wp2_with fail
  refine (zsmall (R7.z 0 rfl) (by decide)).mono ?_
  rintro e w8 ⟨rfl, hb8⟩
  have R8 := (R7.below hb8)
  rw [(zin_yes (x := -9223372036854775808) (by decide) (by decide)).1, (zin_yes (x := -9223372036854775808) (by decide) (by decide)).2]
  go_wp2_with fail
  refine (hp1 _).mono ?_
  rintro e w9 ⟨b_p, A_p, n_p, rfl, z_p, hb9⟩
  have R9 := (((R8.below hb9).add z_p).alloc 24 #[.bool b_p, .slice A_p n_p n_p] (g := w9.heap.size) rfl rfl)
  go_wp2_with fail
  refine (hp2 _).mono ?_
  rintro e w10 ⟨b_m0, A_m0, n_m0, rfl, z_m0, hb10⟩
  have R10 := (((R9.below hb10).add z_m0).alloc 24 #[.bool b_m0, .slice A_m0 n_m0 n_m0] (g := w10.heap.size) rfl rfl)
  go_wp2_with fail
  have D11 := R10.drew
  have s11 := And.intro (D11.cell 5 0 rfl rfl) (And.intro (D11.cell 5 1 rfl rfl) (And.intro (D11.cell 4 0 rfl rfl) (And.intro (D11.cell 4 1 rfl rfl) (And.intro (D11.cell 3 0 rfl rfl) (And.intro (D11.cell 3 1 rfl rfl) (And.intro (D11.cell 2 0 rfl rfl) (And.intro (D11.cell 2 1 rfl rfl) (And.intro (D11.cell 1 0 rfl rfl) (D11.cell 1 1 rfl rfl)))))))))
  go_region_held3 (fun w' => w'.cell? ⟨w3.heap.size, 0, none⟩ = some (.bool b_q) ∧ w'.cell? ⟨w3.heap.size, 1, none⟩ = some (.slice A_q n_q n_q) ∧ w'.cell? ⟨w3.heap.size + 1, 0, none⟩ = some (.bool b_r) ∧ w'.cell? ⟨w3.heap.size + 1, 1, none⟩ = some (.slice A_r n_r n_r) ∧ w'.cell? ⟨w6.heap.size, 0, none⟩ = some (.bool b_s) ∧ w'.cell? ⟨w6.heap.size, 1, none⟩ = some (.slice A_s n_s n_s) ∧ w'.cell? ⟨w6.heap.size + 1, 0, none⟩ = some (.bool b_t) ∧ w'.cell? ⟨w6.heap.size + 1, 1, none⟩ = some (.slice A_t n_t n_t) ∧ w'.cell? ⟨w9.heap.size, 0, none⟩ = some (.bool b_p) ∧ w'.cell? ⟨w9.heap.size, 1, none⟩ = some (.slice A_p n_p n_p))
    (with_reducible assumption)
    ((first
      | (go_at_call 19; show Calls _ _ _ w22 _; refine (zcmp_is (R22.z 1 rfl) (R22.z 0 rfl) (by decide) (by decide) (-1) (by decide)).mono ?_; rintro e w23 ⟨rfl, hb23⟩; have R23 := (R22.below hb23); have s23 := And.intro (R23.cell 5 0 rfl rfl) (And.intro (R23.cell 5 1 rfl rfl) (And.intro (R23.cell 4 0 rfl rfl) (And.intro (R23.cell 4 1 rfl rfl) (And.intro (R23.cell 3 0 rfl rfl) (And.intro (R23.cell 3 1 rfl rfl) (And.intro (R23.cell 2 0 rfl rfl) (And.intro (R23.cell 2 1 rfl rfl) (And.intro (R23.cell 1 0 rfl rfl) (R23.cell 1 1 rfl rfl))))))))))
      | (go_at_call 8; show Calls _ _ _ w21 _; refine (zof 1 _ (by decide) (by decide)).mono ?_; rintro e w22 ⟨b_d2, A_d2, n_d2, rfl, z_d2, hb22⟩; have R22 := ((R21.below hb22).add z_d2); have s22 := And.intro (R22.cell 5 0 rfl rfl) (And.intro (R22.cell 5 1 rfl rfl) (And.intro (R22.cell 4 0 rfl rfl) (And.intro (R22.cell 4 1 rfl rfl) (And.intro (R22.cell 3 0 rfl rfl) (And.intro (R22.cell 3 1 rfl rfl) (And.intro (R22.cell 2 0 rfl rfl) (And.intro (R22.cell 2 1 rfl rfl) (And.intro (R22.cell 1 0 rfl rfl) (R22.cell 1 1 rfl rfl))))))))))
      | (go_at_call 8; show Calls _ _ _ w20 _; refine (zof (-1) _ (by decide) (by decide)).mono ?_; rintro e w21 ⟨b_d1, A_d1, n_d1, rfl, z_d1, hb21⟩; have R21 := ((R20.below hb21).add z_d1); have s21 := And.intro (R21.cell 5 0 rfl rfl) (And.intro (R21.cell 5 1 rfl rfl) (And.intro (R21.cell 4 0 rfl rfl) (And.intro (R21.cell 4 1 rfl rfl) (And.intro (R21.cell 3 0 rfl rfl) (And.intro (R21.cell 3 1 rfl rfl) (And.intro (R21.cell 2 0 rfl rfl) (And.intro (R21.cell 2 1 rfl rfl) (And.intro (R21.cell 1 0 rfl rfl) (R21.cell 1 1 rfl rfl))))))))))
      | (go_at_call 10; show Calls _ _ _ w19 _; refine (ztext (R19.z 5 rfl) (by decide)).mono ?_; rintro e w20 ⟨rfl, hb20⟩; have R20 := (R19.below hb20); have s20 := And.intro (R20.cell 5 0 rfl rfl) (And.intro (R20.cell 5 1 rfl rfl) (And.intro (R20.cell 4 0 rfl rfl) (And.intro (R20.cell 4 1 rfl rfl) (And.intro (R20.cell 3 0 rfl rfl) (And.intro (R20.cell 3 1 rfl rfl) (And.intro (R20.cell 2 0 rfl rfl) (And.intro (R20.cell 2 1 rfl rfl) (And.intro (R20.cell 1 0 rfl rfl) (R20.cell 1 1 rfl rfl))))))))); rw [ztx_12])
      | (go_at_call 12; show Calls _ _ _ w18 _; refine (zsame_true (R18.z 7 rfl) (R18.z 0 rfl) (by decide) (by decide) (by decide)).mono ?_; rintro e w19 ⟨rfl, hb19⟩; have R19 := (R18.below hb19); have s19 := And.intro (R19.cell 5 0 rfl rfl) (And.intro (R19.cell 5 1 rfl rfl) (And.intro (R19.cell 4 0 rfl rfl) (And.intro (R19.cell 4 1 rfl rfl) (And.intro (R19.cell 3 0 rfl rfl) (And.intro (R19.cell 3 1 rfl rfl) (And.intro (R19.cell 2 0 rfl rfl) (And.intro (R19.cell 2 1 rfl rfl) (And.intro (R19.cell 1 0 rfl rfl) (R19.cell 1 1 rfl rfl))))))))))
      | (go_at_call 18; show Calls _ _ _ w17 _; refine (rzof (-1) _ (by decide) (by decide)).mono ?_; rintro e w18 ⟨b_c4, A_c4, n_c4, c_c4, rfl, z_c4, hb18⟩; have R18 := ((R17.below hb18).add z_c4); have s18 := And.intro (R18.cell 5 0 rfl rfl) (And.intro (R18.cell 5 1 rfl rfl) (And.intro (R18.cell 4 0 rfl rfl) (And.intro (R18.cell 4 1 rfl rfl) (And.intro (R18.cell 3 0 rfl rfl) (And.intro (R18.cell 3 1 rfl rfl) (And.intro (R18.cell 2 0 rfl rfl) (And.intro (R18.cell 2 1 rfl rfl) (And.intro (R18.cell 1 0 rfl rfl) (R18.cell 1 1 rfl rfl))))))))))
      | (go_at_call 12; show Calls _ _ _ w16 _; refine (zsame_true (R16.z 7 rfl) (R16.z 0 rfl) (by decide) (by decide) (by decide)).mono ?_; rintro e w17 ⟨rfl, hb17⟩; have R17 := (R16.below hb17); have s17 := And.intro (R17.cell 5 0 rfl rfl) (And.intro (R17.cell 5 1 rfl rfl) (And.intro (R17.cell 4 0 rfl rfl) (And.intro (R17.cell 4 1 rfl rfl) (And.intro (R17.cell 3 0 rfl rfl) (And.intro (R17.cell 3 1 rfl rfl) (And.intro (R17.cell 2 0 rfl rfl) (And.intro (R17.cell 2 1 rfl rfl) (And.intro (R17.cell 1 0 rfl rfl) (R17.cell 1 1 rfl rfl))))))))))
      | (go_at_call 18; show Calls _ _ _ w15 _; refine (rzof (-4) _ (by decide) (by decide)).mono ?_; rintro e w16 ⟨b_c3, A_c3, n_c3, c_c3, rfl, z_c3, hb16⟩; have R16 := ((R15.below hb16).add z_c3); have s16 := And.intro (R16.cell 5 0 rfl rfl) (And.intro (R16.cell 5 1 rfl rfl) (And.intro (R16.cell 4 0 rfl rfl) (And.intro (R16.cell 4 1 rfl rfl) (And.intro (R16.cell 3 0 rfl rfl) (And.intro (R16.cell 3 1 rfl rfl) (And.intro (R16.cell 2 0 rfl rfl) (And.intro (R16.cell 2 1 rfl rfl) (And.intro (R16.cell 1 0 rfl rfl) (R16.cell 1 1 rfl rfl))))))))))
      | (go_at_call 12; show Calls _ _ _ w14 _; refine (zsame_true (R14.z 9 rfl) (R14.z 0 rfl) (by decide) (by decide) (by decide)).mono ?_; rintro e w15 ⟨rfl, hb15⟩; have R15 := (R14.below hb15); have s15 := And.intro (R15.cell 5 0 rfl rfl) (And.intro (R15.cell 5 1 rfl rfl) (And.intro (R15.cell 4 0 rfl rfl) (And.intro (R15.cell 4 1 rfl rfl) (And.intro (R15.cell 3 0 rfl rfl) (And.intro (R15.cell 3 1 rfl rfl) (And.intro (R15.cell 2 0 rfl rfl) (And.intro (R15.cell 2 1 rfl rfl) (And.intro (R15.cell 1 0 rfl rfl) (R15.cell 1 1 rfl rfl))))))))))
      | (go_at_call 18; show Calls _ _ _ w13 _; refine (rzof (1) _ (by decide) (by decide)).mono ?_; rintro e w14 ⟨b_c2, A_c2, n_c2, c_c2, rfl, z_c2, hb14⟩; have R14 := ((R13.below hb14).add z_c2); have s14 := And.intro (R14.cell 5 0 rfl rfl) (And.intro (R14.cell 5 1 rfl rfl) (And.intro (R14.cell 4 0 rfl rfl) (And.intro (R14.cell 4 1 rfl rfl) (And.intro (R14.cell 3 0 rfl rfl) (And.intro (R14.cell 3 1 rfl rfl) (And.intro (R14.cell 2 0 rfl rfl) (And.intro (R14.cell 2 1 rfl rfl) (And.intro (R14.cell 1 0 rfl rfl) (R14.cell 1 1 rfl rfl))))))))))
      | (go_at_call 12; show Calls _ _ _ w12 _; refine (zsame_true (R12.z 9 rfl) (R12.z 0 rfl) (by decide) (by decide) (by decide)).mono ?_; rintro e w13 ⟨rfl, hb13⟩; have R13 := (R12.below hb13); have s13 := And.intro (R13.cell 5 0 rfl rfl) (And.intro (R13.cell 5 1 rfl rfl) (And.intro (R13.cell 4 0 rfl rfl) (And.intro (R13.cell 4 1 rfl rfl) (And.intro (R13.cell 3 0 rfl rfl) (And.intro (R13.cell 3 1 rfl rfl) (And.intro (R13.cell 2 0 rfl rfl) (And.intro (R13.cell 2 1 rfl rfl) (And.intro (R13.cell 1 0 rfl rfl) (R13.cell 1 1 rfl rfl))))))))))
      | (go_at_call 18; refine (rzof (-4) _ (by decide) (by decide)).mono ?_; rintro e w12 ⟨b_c1, A_c1, n_c1, c_c1, rfl, z_c1, hb12⟩; have R12 := ((D11.below hb12).add z_c1); have s12 := And.intro (R12.cell 5 0 rfl rfl) (And.intro (R12.cell 5 1 rfl rfl) (And.intro (R12.cell 4 0 rfl rfl) (And.intro (R12.cell 4 1 rfl rfl) (And.intro (R12.cell 3 0 rfl rfl) (And.intro (R12.cell 3 1 rfl rfl) (And.intro (R12.cell 2 0 rfl rfl) (And.intro (R12.cell 2 1 rfl rfl) (And.intro (R12.cell 1 0 rfl rfl) (R12.cell 1 1 rfl rfl))))))))))))
  go_wp2_with fail
  go_ret
  exact ⟨rfl, R23.bel⟩
end Go.Proofs.YticjhlbmdjijnaaDoor

/- few, of layer 2. No condition. -/
namespace Go.Proofs.YticjhlbmdjijnaaDoor
open Go.RowKit

set_option maxRecDepth 100000 in
set_option maxHeartbeats 400000 in
theorem zfew {w : World} {a : Bool} {A : Option Addr} {n c : Nat} : Calls Tryd.prog 5 #[.agg #[.bool a, .slice A n c]] w fun e w' => e = .returned (.bool (decide ((n : Int) ≤ 14))) ∧ Below w.heap.size w w' := by
  have E1 := ((Env.nil_ w).alloc 24 #[.bool a, .slice A n c] (g := w.heap.size) rfl rfl)
  go_enter Tryd.func5, Tryd.ntmps5
  go_wp2_with fail
  go_ret
  exact ⟨rfl, E1.bel⟩

theorem zfew_yes {w : World} {a : Bool} {A : Option Addr} {n c : Nat} (h : n ≤ 14) : Calls Tryd.prog 5 #[.agg #[.bool a, .slice A n c]] w fun e w' => e = .returned (.bool true) ∧ Below w.heap.size w w' :=
  zfew.mono fun e w' ⟨h1, h2⟩ => ⟨by rw [h1, decide_eq_true (by omega)], h2⟩
theorem zfew_no {w : World} {a : Bool} {A : Option Addr} {n c : Nat} (h : 14 < n) : Calls Tryd.prog 5 #[.agg #[.bool a, .slice A n c]] w fun e w' => e = .returned (.bool false) ∧ Below w.heap.size w w' :=
  zfew.mono fun e w' ⟨h1, h2⟩ => ⟨by rw [h1, decide_eq_false (by omega)], h2⟩
end Go.Proofs.YticjhlbmdjijnaaDoor
