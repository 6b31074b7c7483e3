/- The law RootFlips, walked. No condition but the reach of a slice. -/
import Derived.Test.YtfoeapjlklfjgaaDoorRootC
import Derived.Test.YtfoeapjlklfjgaaDoorLawR
import Derived.Deep.DeepCutAuto
namespace Go.Proofs.YtfoeapjlklfjgaaDoor
set_option linter.unusedSimpArgs false
set_option linter.unusedVariables false
open Go.RowKit

theorem plan_begun (s : DSt) (k : Int) : (s.plan k).begun = 0 := rfl
set_option maxRecDepth 100000 in
set_option maxHeartbeats 6400000 in
theorem rootFlips_any (first : Nat) (A : Option Addr) (n c : Nat) (l : List Nat) (B : Option Addr) (m d : Nat) (xs : List BEl) (w : World) (hf : first < 4294967296) (hr : Ints w .u8 256 A n c l) (hn : n ≤ maxLen) (hB : BArg w B m d xs) (hm : m ≤ maxLen) :
    Calls Tryd.prog 12 #[.int .u32 (first : Int), .slice A n c, .slice B m d] w fun e w' => e = .returned (.bool true) ∧ Below w.heap.size w w' := by
  unfold maxLen at hn hm
  by_cases h0 : first = 0
  · have h0i : ((first : Int) == 0) = true := by simp [h0]
    clear h0
    go_enter Tryd.func12, Tryd.ntmps12
    go_wp2_with fail
    refine (rawake_any _).mono ?_; rintro e w1 ⟨rfl, hb1⟩
    go_wp2_with fail
    refine (dnew_de 2 (by omega) (by omega) _ hb1).mono ?_; rintro e w2 ⟨g, rfl, E⟩
    go_wp2_with fail
    go_ret
    exact ⟨rfl, E.bel⟩
  have h0i : ((first : Int) == 0) = false := by simp; omega
  have HF := Lib.hid (DSt.Flip.first (gen := first) h0)
  go_enter Tryd.func12, Tryd.ntmps12
  go_wp2_with fail
  refine (rawake_any _).mono ?_; rintro e w1 ⟨rfl, hb1⟩
  go_wp2_with fail
  refine (dnew_de 2 (by omega) (by omega) _ hb1).mono ?_; rintro e w2 ⟨g, rfl, E⟩
  go_wp2_with fail
  refine (save_any E first hf (by decide) (by decide)).mono ?_; rintro e w3 ⟨rfl, E⟩
  rw [HF.out.1]
  go_wp2_with fail
  go_loopw [9, 10] (fun gv iv wr => ∃ (i gen : Nat) (s : DSt), i ≤ n ∧ iv = .int .i64 (i : Int) ∧ gv = .int .u32 (gen : Int) ∧ 0 < gen ∧ gen < 4294967296 ∧ DE w wr g s [] [] ∧ DSt.Flip s gen) (fun _ iv _ => n - (intOf iv).toNat)
  case atStart => exact ⟨0, first, _, Nat.zero_le _, rfl, rfl, by omega, hf, E, HF.out.2⟩
  case round =>
    obtain ⟨i, gen, s, hi, rfl, rfl, hg0, hg2, E2, hFl⟩ := hrel
    clear E
    have E := E2
    clear E2
    by_cases hgo : i < n ∧ i < 40 ∧ gen < 4294967295
    · obtain ⟨g1_, g2_, g3_⟩ := hgo
      have t1 : (i : Int) < (n : Int) := by omega
      have t2 : (i : Int) < 40 := by omega
      have t2d : decide ((i : Int) < 40) = true := decide_eq_true t2
      have t3 : (gen : Int) < 4294967295 := by omega
      have t3d : decide ((gen : Int) < 4294967295) = true := decide_eq_true t3
      obtain ⟨b, o, x, hA, _, hx, hxl, hc⟩ := (hr.below E.bel).get g1_
      obtain ⟨k4, hk4⟩ : ∃ z, x % 4 = z := ⟨_, rfl⟩
      have hki : (x : Int) % 4 = (k4 : Int) := by omega
      have hk4l : k4 < 4 := by omega
      obtain ⟨g1, hg1⟩ : ∃ z, gen + 1 = z := ⟨_, rfl⟩
      have hg1i : (gen : Int) + 1 = (g1 : Int) := by omega
      have HG1 := Lib.hid hg1i
      have hg1b : g1 < 4294967296 := by omega
      have HN := Lib.hid (hFl.next hg0 (by omega) (k4 : Int))
      rw [hg1] at HN
      have HFl := Lib.hid hFl
      subst hA
      clear hk4 hg1 hFl hx
      go_wp2_with fail
      refine (dplan_de E (k4 : Int) (by omega)).mono ?_; rintro e w3 ⟨⟨_, rfl⟩, E⟩
      clear hc
      go_wp2_with fail
      refine (save_any E g1 hg1b (by rw [plan_begun]; decide) (by show s.pend.length < _; rw [HFl.out.pend]; decide)).mono ?_; rintro e w4 ⟨rfl, E⟩
      obtain ⟨sv, hsv⟩ : ∃ z, ((s.plan (k4 : Int)).save g1).1 = z := ⟨_, rfl⟩
      obtain ⟨cd, hcd⟩ : ∃ z, ((s.plan (k4 : Int)).save g1).2 = z := ⟨_, rfl⟩
      rw [hsv] at E
      rw [hcd]
      have hnx : ∀ cs, (cd = 0 → DSt.Flip (sv.up cs) g1) ∧ (DSt.Flip (sv.up cs) gen ∨ DSt.Flip (sv.up cs) g1) := fun cs => by
        have := HN.out cs
        rw [hsv, hcd] at this
        exact this
      have HX := Lib.hid hnx
      clear hsv hcd hnx hki
      by_cases him : i < m
      · have hIm : (i : Int) < (m : Int) := by omega
        obtain ⟨b3, o3, x3, hB3, hx3, hc3, hi3⟩ := (hB.below E.bel).get him
        obtain ⟨A2, n2, c2, l2⟩ := x3
        dsimp only at hc3 hi3
        subst hB3
        clear hx3
        by_cases h300 : 300 < n2
        · have h3i : (300 : Int) < (n2 : Int) := by omega
          go_wp2_with fail
          go_ret
          exact ⟨rfl, E.bel⟩
        have h3d : decide ((300 : Int) < (n2 : Int)) = false := decide_eq_false (by omega)
        have HN2 := Lib.hid (show n2 ≤ 1099511627776 by omega)
        clear hg1i h300
        go_wp2_with fail
        refine (dup_de E hi3 HN2.out).mono ?_; rintro e w5 ⟨⟨_, rfl⟩, E⟩
        have HY := Lib.hid (HX.out l2)
        clear hi3 hc3
        go_wp2_with fail
        by_cases hc0 : cd = 0
        · subst hc0
          have hfl := HY.out.1 rfl
          have HL := Lib.hid (hfl.load (by have := HG1.out; omega) hg1b)
          have HFL := Lib.hid hfl
          clear hfl
          refine (load_any E).mono ?_; rintro e w6 ⟨rfl, hb6⟩
          rw [HL.out]
          have E := E.below hb6
          clear hb6
          have x1 : ((g1 : Int) != (gen : Int)) = true := by have := HG1.out; simp; omega
          have x2 : ((g1 : Int) != (g1 : Int)) = false := by simp
          have x0 : (gen : Int) + 1 = (g1 : Int) := HG1.out
          go_wp2_with fail
          go_roundw
          case rel => exact ⟨i + 1, g1, _, by omega, by go_num, rfl, by omega, by omega, E, HFL.out⟩
          case measure => simp [intOf]; omega
        · have hcn : (cd == 0) = false := by simpa using hc0
          clear hc0
          rcases HY.out.2 with hfl | hfl
          · have HL := Lib.hid (hfl.load hg0 hg2)
            have HFL := Lib.hid hfl
            clear hfl
            refine (load_any E).mono ?_; rintro e w6 ⟨rfl, hb6⟩
            rw [HL.out]
            have E := E.below hb6
            clear hb6
            have x1 : ((gen : Int) != (gen : Int)) = false := by simp
            have x2 : ((gen : Int) != (g1 : Int)) = true := by have := HG1.out; simp; omega
            have x0 : (gen : Int) + 1 = (g1 : Int) := HG1.out
            go_wp2_with fail
            go_roundw
            case rel => exact ⟨i + 1, gen, _, by omega, by go_num, rfl, by omega, by omega, E, HFL.out⟩
            case measure => simp [intOf]; omega
          · have HL := Lib.hid (hfl.load (by have := HG1.out; omega) hg1b)
            have HFL := Lib.hid hfl
            clear hfl
            refine (load_any E).mono ?_; rintro e w6 ⟨rfl, hb6⟩
            rw [HL.out]
            have E := E.below hb6
            clear hb6
            have x1 : ((g1 : Int) != (gen : Int)) = true := by have := HG1.out; simp; omega
            have x2 : ((g1 : Int) != (g1 : Int)) = false := by simp
            have x0 : (gen : Int) + 1 = (g1 : Int) := HG1.out
            go_wp2_with fail
            go_roundw
            case rel => exact ⟨i + 1, g1, _, by omega, by go_num, rfl, by omega, by omega, E, HFL.out⟩
            case measure => simp [intOf]; omega
      · have hIm : ¬ (i : Int) < (m : Int) := by omega
        clear hg1i
        go_wp2_with fail
        refine (dup_de E (Ints.nil_ _ .u8 256 none 0) (by omega)).mono ?_; rintro e w5 ⟨⟨_, rfl⟩, E⟩
        have HY := Lib.hid (HX.out [])
        go_wp2_with fail
        by_cases hc0 : cd = 0
        · subst hc0
          have hfl := HY.out.1 rfl
          have HL := Lib.hid (hfl.load (by have := HG1.out; omega) hg1b)
          have HFL := Lib.hid hfl
          clear hfl
          refine (load_any E).mono ?_; rintro e w6 ⟨rfl, hb6⟩
          rw [HL.out]
          have E := E.below hb6
          clear hb6
          have x1 : ((g1 : Int) != (gen : Int)) = true := by have := HG1.out; simp; omega
          have x2 : ((g1 : Int) != (g1 : Int)) = false := by simp
          have x0 : (gen : Int) + 1 = (g1 : Int) := HG1.out
          go_wp2_with fail
          go_roundw
          case rel => exact ⟨i + 1, g1, _, by omega, by go_num, rfl, by omega, by omega, E, HFL.out⟩
          case measure => simp [intOf]; omega
        · have hcn : (cd == 0) = false := by simpa using hc0
          clear hc0
          rcases HY.out.2 with hfl | hfl
          · have HL := Lib.hid (hfl.load hg0 hg2)
            have HFL := Lib.hid hfl
            clear hfl
            refine (load_any E).mono ?_; rintro e w6 ⟨rfl, hb6⟩
            rw [HL.out]
            have E := E.below hb6
            clear hb6
            have x1 : ((gen : Int) != (gen : Int)) = false := by simp
            have x2 : ((gen : Int) != (g1 : Int)) = true := by have := HG1.out; simp; omega
            have x0 : (gen : Int) + 1 = (g1 : Int) := HG1.out
            go_wp2_with fail
            go_roundw
            case rel => exact ⟨i + 1, gen, _, by omega, by go_num, rfl, by omega, by omega, E, HFL.out⟩
            case measure => simp [intOf]; omega
          · have HL := Lib.hid (hfl.load (by have := HG1.out; omega) hg1b)
            have HFL := Lib.hid hfl
            clear hfl
            refine (load_any E).mono ?_; rintro e w6 ⟨rfl, hb6⟩
            rw [HL.out]
            have E := E.below hb6
            clear hb6
            have x1 : ((g1 : Int) != (gen : Int)) = true := by have := HG1.out; simp; omega
            have x2 : ((g1 : Int) != (g1 : Int)) = false := by simp
            have x0 : (gen : Int) + 1 = (g1 : Int) := HG1.out
            go_wp2_with fail
            go_roundw
            case rel => exact ⟨i + 1, g1, _, by omega, by go_num, rfl, by omega, by omega, E, HFL.out⟩
            case measure => simp [intOf]; omega
    · go_upto_region 10 with (fail)
      go_cut [45] (fun v45 wx => v45 = .bool false ∧ wx = wr)
      case first =>
        by_cases h1 : i < n
        · have t1 : (i : Int) < (n : Int) := by omega
          by_cases h2 : i < 40
          · have t2 : (i : Int) < 40 := by omega
            have t2d : decide ((i : Int) < 40) = true := decide_eq_true t2
            have t3 : ¬ (gen : Int) < 4294967295 := by omega
            have t3d : decide ((gen : Int) < 4294967295) = false := decide_eq_false t3
            clear hgo h1 h2
            go_wp2_with fail
            go_meet
            exact ⟨rfl, rfl⟩
          · have t2 : ¬ (i : Int) < 40 := by omega
            have t2d : decide ((i : Int) < 40) = false := decide_eq_false t2
            clear hgo h1 h2
            go_wp2_with fail
            go_meet
            exact ⟨rfl, rfl⟩
        · have t1 : ¬ (i : Int) < (n : Int) := by omega
          clear hgo h1
          go_wp2_with fail
          go_meet
          exact ⟨rfl, rfl⟩
      case rest =>
        obtain ⟨rfl, rfl⟩ := hcut
        clear hgo
        go_wp2_with fail
        go_ret
        exact ⟨rfl, E.bel⟩
end Go.Proofs.YtfoeapjlklfjgaaDoor
