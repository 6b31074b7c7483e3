/- The law DiskStops, walked. No condition. -/
import Derived.Test.YtkjmccicdjkccaaDAwake
import Derived.Test.YtkjmccicdjkccaaDMath
namespace Go.Proofs.Ytkjmccicdjkccaa
set_option linter.unusedSimpArgs false
set_option linter.unusedVariables false
open Go.RowKit

set_option maxRecDepth 100000 in
set_option maxHeartbeats 3200000 in
theorem diskStops_any (a b : Nat) (w : World) (ha : a < 256) (hb : b < 256) : Calls Try.prog 5 #[.int .u8 (a : Int), .int .u8 (b : Int)] w fun e w' => e = .returned (.bool true) ∧ Below w.heap.size w w' := by
  obtain ⟨k, hk⟩ : ∃ k, a % 30 = k := ⟨_, rfl⟩
  obtain ⟨m, hm⟩ : ∃ m, b % 40 = m := ⟨_, rfl⟩
  have ek : (a : Int) % 30 = (k : Int) := by omega
  have em : (b : Int) % 40 = (m : Int) := by omega
  have hk30 : k < 30 := by omega
  have hm40 : m < 40 := by omega
  clear hk hm
  go_enter Try.func5, Try.ntmps5
  go_wp2_with fail
  refine (dawake_any w).mono ?_; rintro e w1 ⟨rfl, hb1⟩
  go_wp2_with fail
  refine (dnew_de 4 (by omega) (by omega) w1 hb1).mono ?_; rintro e w2 ⟨g, rfl, E⟩
  go_wp2_with fail
  refine (dplan_de E (k : Int) (by omega)).mono ?_; rintro e w3 ⟨⟨_, rfl⟩, E⟩
  have hW := Lib.hid (Wk.start 4 k)
  go_wp2_with fail
  go_loopw [8] (fun v wr => ∃ (i j : Nat) (s : DSt), i = j + 1 ∧ j ≤ m ∧ v = .int .i64 i ∧ DE w wr g s [] [] ∧ Wk s 4 k j) (fun i _ => m + 1 - (intOf i).toNat)
  case atStart => exact ⟨1, 0, _, rfl, Nat.zero_le _, rfl, E, hW.out⟩
  case round =>
    obtain ⟨i, j, s, hij, hjm, rfl, E, hwk⟩ := hrel
    clear hW
    by_cases hlt : j < m
    · obtain ⟨r, hr⟩ : ∃ r, i % 4 = r := ⟨_, rfl⟩
      have er : (i : Int) % 4 = (r : Int) := by omega
      have hr4 : r < 4 := by omega
      have hle : (i : Int) ≤ (m : Int) := by omega
      have hu : IntKind.u8.wrap (i : Int) = (i : Int) := IntWalk.u8_in _ (by omega)
      have hs := hwk.step hr4 (rowL_len i)
      rw [← hij] at hs
      have hbg := hwk.le
      have hpd := hwk.pend
      have HS := Lib.hid (And.intro hs hij)
      clear hs hwk hr hij
      go_wp2_with fail
      refine (row_any i (by omega) false _).mono ?_; rintro e w4 ⟨A4, n4, c4, rfl, ho, hn, hb4⟩
      have E := E.below hb4
      go_wp2_with fail
      refine (dwrite_de E (r : Int) ho (by omega) (by omega) (by omega)).mono ?_; rintro e w5 ⟨rfl, E⟩
      clear ho hn hb4
      generalize hcd : (s.write (r : Int) (rowL i false)).2 = cd at *
      generalize hs1 : (s.write (r : Int) (rowL i false)).1 = s1 at *
      clear hcd hs1
      by_cases hk0 : k = 0
      · obtain rfl : cd = 0 := by have := HS.out.1.2; rw [if_pos (.inl hk0)] at this; exact this
        have hkb : ((k : Int) == 0) = true := by simp [hk0]
        clear hk0
        go_wp2_with fail
        exact ⟨⟨i + 1, i, s1, rfl, by have := HS.out.2; omega, by go_num, E, HS.out.1.1⟩, by simp [intOf]; omega⟩
      · have hkb : ((k : Int) == 0) = false := by simp; omega
        by_cases hik : i < k
        · obtain rfl : cd = 0 := by have := HS.out.1.2; rw [if_pos (.inr hik)] at this; exact this
          have hik' : (i : Int) < (k : Int) := by omega
          clear hk0 hik
          go_wp2_with fail
          exact ⟨⟨i + 1, i, s1, rfl, by have := HS.out.2; omega, by go_num, E, HS.out.1.1⟩, by simp [intOf]; omega⟩
        · obtain rfl : cd = 4 := by have := HS.out.1.2; rw [if_neg (by omega)] at this; exact this
          have hik' : ¬ (i : Int) < (k : Int) := by omega
          have hik2 : decide ((i : Int) < (k : Int)) = false := by simpa using hik'
          clear hk0 hik
          go_wp2_with fail
          exact ⟨⟨i + 1, i, s1, rfl, by have := HS.out.2; omega, by go_num, E, HS.out.1.1⟩, by simp [intOf]; omega⟩
    · obtain rfl : j = m := by omega
      have hxi : ¬ (i : Int) ≤ (j : Int) := by omega
      have hdn := hwk.down
      have hW := Lib.hid hwk
      clear hwk hij
      by_cases hk0 : 0 < k
      · have hkb : decide (0 < k) = true := decide_eq_true hk0
        by_cases hkj : k ≤ j
        · have hkc : decide (k ≤ j) = true := decide_eq_true hkj
          have hdn' := hdn.trans (decide_eq_true ⟨hk0, hkj⟩)
          clear hk0 hkj
          clear hdn
          generalize hsd : s.down = dn at *
          have HD := Lib.hid hsd
          clear hsd
          subst hdn'
          go_wp2_with fail
          refine (ddown_de E).mono ?_; rintro e w7 ⟨rfl, rfl⟩
          rw [HD.out]
          go_wp2_with fail
          refine (dup_de E (Ints.nil_ ..) (by omega)).mono ?_; rintro e w8 ⟨⟨_, rfl⟩, E⟩
          have hW2 := Lib.hid (hW.out.up [])
          clear HD
          generalize s.up [] = s2 at *
          go_wp2_with fail
          go_loopw [11] (fun v wr => ∃ (j : Nat) (s : DSt), j ≤ 40 ∧ v = .int .i64 j ∧ DE w wr g s [] [] ∧ Wk s 4 0 j) (fun i _ => 40 - (intOf i).toNat)
          case atStart => exact ⟨0, _, Nat.zero_le _, rfl, E, hW2.out⟩
          case round =>
            obtain ⟨q, s3, hq40, rfl, E3, hwk3⟩ := hrel
            clear hW2 hW
            by_cases hlt2 : q < 40
            · have hlq : (q : Int) < 40 := by omega
              have hs3 := hwk3.step (show 0 < 4 by omega) (rowL_len 1)
              rw [if_pos (.inl rfl)] at hs3
              have hbg := hwk3.le
              have hpd := hwk3.pend
              have HS := Lib.hid hs3
              clear hs3 hwk3
              go_wp2_with fail
              refine (row_any 1 (by omega) false _).mono ?_; rintro e w9 ⟨A9, n9, c9, rfl, ho, hn, hb9⟩
              have E3 := E3.below hb9
              go_wp2_with fail
              refine (dwrite_de E3 ((0 : Nat) : Int) ho (by omega) (by omega) (by omega)).mono ?_; rintro e w10 ⟨rfl, E3⟩
              rw [HS.out.2]
              clear ho hn hb9
              go_wp2_with fail
              exact ⟨⟨q + 1, _, by omega, by go_num, E3, HS.out.1⟩, by simp [intOf]; omega⟩
            · obtain rfl : q = 40 := by omega
              have hdn3 := hwk3.down
              rw [show decide (0 < 0 ∧ 0 ≤ 40) = false from rfl] at hdn3
              have HD := Lib.hid hdn3
              have HF := Lib.hid hwk3.flush
              have hbg := hwk3.le
              clear hdn3 hwk3
              go_wp2_with fail
              refine (ddown_de E3).mono ?_; rintro e w9 ⟨rfl, rfl⟩
              rw [HD.out]
              go_wp2_with fail
              refine (dflush_de E3 (by omega)).mono ?_; rintro e w10 ⟨rfl, E3⟩
              rw [HF.out]
              go_wp2_with fail
              go_ret
              exact ⟨rfl, E3.bel⟩
        · have hkc : decide (k ≤ j) = false := decide_eq_false hkj
          have hdn' := hdn.trans (decide_eq_false (fun h => hkj h.2))
          clear hk0 hkj
          clear hdn
          generalize hsd : s.down = dn at *
          have HD := Lib.hid hsd
          clear hsd
          subst hdn'
          go_wp2_with fail
          refine (ddown_de E).mono ?_; rintro e w7 ⟨rfl, rfl⟩
          rw [HD.out]
          go_wp2_with fail
          refine (dup_de E (Ints.nil_ ..) (by omega)).mono ?_; rintro e w8 ⟨⟨_, rfl⟩, E⟩
          have hW2 := Lib.hid (hW.out.up [])
          clear HD
          generalize s.up [] = s2 at *
          go_wp2_with fail
          go_loopw [11] (fun v wr => ∃ (j : Nat) (s : DSt), j ≤ 40 ∧ v = .int .i64 j ∧ DE w wr g s [] [] ∧ Wk s 4 0 j) (fun i _ => 40 - (intOf i).toNat)
          case atStart => exact ⟨0, _, Nat.zero_le _, rfl, E, hW2.out⟩
          case round =>
            obtain ⟨q, s3, hq40, rfl, E3, hwk3⟩ := hrel
            clear hW2 hW
            by_cases hlt2 : q < 40
            · have hlq : (q : Int) < 40 := by omega
              have hs3 := hwk3.step (show 0 < 4 by omega) (rowL_len 1)
              rw [if_pos (.inl rfl)] at hs3
              have hbg := hwk3.le
              have hpd := hwk3.pend
              have HS := Lib.hid hs3
              clear hs3 hwk3
              go_wp2_with fail
              refine (row_any 1 (by omega) false _).mono ?_; rintro e w9 ⟨A9, n9, c9, rfl, ho, hn, hb9⟩
              have E3 := E3.below hb9
              go_wp2_with fail
              refine (dwrite_de E3 ((0 : Nat) : Int) ho (by omega) (by omega) (by omega)).mono ?_; rintro e w10 ⟨rfl, E3⟩
              rw [HS.out.2]
              clear ho hn hb9
              go_wp2_with fail
              exact ⟨⟨q + 1, _, by omega, by go_num, E3, HS.out.1⟩, by simp [intOf]; omega⟩
            · obtain rfl : q = 40 := by omega
              have hdn3 := hwk3.down
              rw [show decide (0 < 0 ∧ 0 ≤ 40) = false from rfl] at hdn3
              have HD := Lib.hid hdn3
              have HF := Lib.hid hwk3.flush
              have hbg := hwk3.le
              clear hdn3 hwk3
              go_wp2_with fail
              refine (ddown_de E3).mono ?_; rintro e w9 ⟨rfl, rfl⟩
              rw [HD.out]
              go_wp2_with fail
              refine (dflush_de E3 (by omega)).mono ?_; rintro e w10 ⟨rfl, E3⟩
              rw [HF.out]
              go_wp2_with fail
              go_ret
              exact ⟨rfl, E3.bel⟩
      · have hkb : decide (0 < k) = false := decide_eq_false hk0
        have hdn' := hdn.trans (decide_eq_false (fun h => hk0 h.1))
        clear hk0
        clear hdn
        generalize hsd : s.down = dn at *
        have HD := Lib.hid hsd
        clear hsd
        subst hdn'
        go_wp2_with fail
        refine (ddown_de E).mono ?_; rintro e w7 ⟨rfl, rfl⟩
        rw [HD.out]
        go_wp2_with fail
        refine (dup_de E (Ints.nil_ ..) (by omega)).mono ?_; rintro e w8 ⟨⟨_, rfl⟩, E⟩
        have hW2 := Lib.hid (hW.out.up [])
        clear HD
        generalize s.up [] = s2 at *
        go_wp2_with fail
        go_loopw [11] (fun v wr => ∃ (j : Nat) (s : DSt), j ≤ 40 ∧ v = .int .i64 j ∧ DE w wr g s [] [] ∧ Wk s 4 0 j) (fun i _ => 40 - (intOf i).toNat)
        case atStart => exact ⟨0, _, Nat.zero_le _, rfl, E, hW2.out⟩
        case round =>
          obtain ⟨q, s3, hq40, rfl, E3, hwk3⟩ := hrel
          clear hW2 hW
          by_cases hlt2 : q < 40
          · have hlq : (q : Int) < 40 := by omega
            have hs3 := hwk3.step (show 0 < 4 by omega) (rowL_len 1)
            rw [if_pos (.inl rfl)] at hs3
            have hbg := hwk3.le
            have hpd := hwk3.pend
            have HS := Lib.hid hs3
            clear hs3 hwk3
            go_wp2_with fail
            refine (row_any 1 (by omega) false _).mono ?_; rintro e w9 ⟨A9, n9, c9, rfl, ho, hn, hb9⟩
            have E3 := E3.below hb9
            go_wp2_with fail
            refine (dwrite_de E3 ((0 : Nat) : Int) ho (by omega) (by omega) (by omega)).mono ?_; rintro e w10 ⟨rfl, E3⟩
            rw [HS.out.2]
            clear ho hn hb9
            go_wp2_with fail
            exact ⟨⟨q + 1, _, by omega, by go_num, E3, HS.out.1⟩, by simp [intOf]; omega⟩
          · obtain rfl : q = 40 := by omega
            have hdn3 := hwk3.down
            rw [show decide (0 < 0 ∧ 0 ≤ 40) = false from rfl] at hdn3
            have HD := Lib.hid hdn3
            have HF := Lib.hid hwk3.flush
            have hbg := hwk3.le
            clear hdn3 hwk3
            go_wp2_with fail
            refine (ddown_de E3).mono ?_; rintro e w9 ⟨rfl, rfl⟩
            rw [HD.out]
            go_wp2_with fail
            refine (dflush_de E3 (by omega)).mono ?_; rintro e w10 ⟨rfl, E3⟩
            rw [HF.out]
            go_wp2_with fail
            go_ret
            exact ⟨rfl, E3.bel⟩
end Go.Proofs.Ytkjmccicdjkccaa
