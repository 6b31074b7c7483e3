/- The law LedgerHalves, walked. No condition. -/
import Derived.Test.YtdlcngmcjidomaaDoorGLE
namespace Go.Proofs.YtdlcngmcjidomaaDoor
set_option linter.unusedSimpArgs false
set_option linter.unusedVariables false
open Go.RowKit Go.Shelf

set_option maxRecDepth 100000 in
set_option maxHeartbeats 6400000 in
theorem ledgerHalves_any (n : Nat) (w : World) (hn : n < 65536) :
    Calls Tryd.prog 7 #[.int .u16 (n : Int)] w fun e w' => e = .returned (.bool true) ∧ Below w.heap.size w w' := by
  obtain ⟨r, hr0⟩ : ∃ z, n % 512 = z := ⟨_, rfl⟩
  obtain ⟨k, hk⟩ : ∃ z, 1 + r = z := ⟨_, rfl⟩
  have hri : (n : Int) % 512 = (r : Int) := by omega
  have hki : 1 + (r : Int) = (k : Int) := by omega
  have hk1 : 1 ≤ k := by omega
  have hk2 : k ≤ 512 := by omega
  clear hr0 hk
  by_cases h18 : k < 18
  · have q : (k : Int) < 18 := by omega
    have qd : decide ((k : Int) < 18) = true := decide_eq_true q
    go_enter Tryd.func7, Tryd.ntmps7
    go_wp2_with fail
    refine (awake9_any _).mono ?_; rintro e w1 ⟨rfl, hb1⟩
    have HB1 := Lib.hid hb1
    clear hb1
    go_wp2_with fail
    refine (we_new (w0 := w) k hk1 hk2 _ HB1.out).mono ?_; rintro e w2 ⟨g, rfl, E⟩
    clear hri hki
    go_wp2_with fail
    refine (open_no E (by rw [new_length]; exact h18)).mono ?_; rintro e w3 ⟨rfl, E3⟩
    have HF := Lib.hid E3.bel
    clear E E3 HB1
    go_wp2_with fail
    go_ret
    exact ⟨rfl, HF.out⟩
  · have q : ¬ (k : Int) < 18 := by omega
    have qd : decide ((k : Int) < 18) = false := decide_eq_false q
    obtain ⟨half, hh⟩ : ∃ z, (k - 2) / 2 = z := ⟨_, rfl⟩
    obtain ⟨k2, hk2'⟩ : ∃ z, k - 2 = z := ⟨_, rfl⟩
    have hki2 : (k : Int) - 2 = (k2 : Int) := by omega
    have hki3 : (k2 : Int) / 2 = (half : Int) := by omega
    have hL := Led.LUp.new (half := half) (D := k) (by omega) (by omega)
    have HL := Lib.hid (And.intro hL (And.intro hh (show 18 ≤ k by omega)))
    have HA := Lib.hid (And.intro hki2 hki3)
    have h255 : half ≤ 255 := by omega
    have hk2b : k2 ≤ 510 := by omega
    clear hL hh hk2' hki2 hki3 h18
    go_enter Tryd.func7, Tryd.ntmps7
    go_wp2_with fail
    refine (awake9_any _).mono ?_; rintro e w1 ⟨rfl, hb1⟩
    have HB1 := Lib.hid hb1
    clear hb1
    go_wp2_with fail
    refine (we_new (w0 := w) k hk1 hk2 _ HB1.out).mono ?_; rintro e w2 ⟨g, rfl, E⟩
    clear hri hki
    go_wp2_with fail
    refine (open_we E HL.out.1 (by rw [new_length]; exact HL.out.2.1.symm) (by rw [new_length]; exact HL.out.2.2) (by decide)).mono ?_; rintro e w3 ⟨hl, rfl, E3⟩
    have HE := Lib.hid E3
    clear E E3 HB1
    go_wp2_with fail
    refine (lfree_le HE.out).mono ?_; rintro e w4 ⟨rfl, E4⟩
    have HE4 := Lib.hid E4
    clear E4 HE
    have hfr : (half - SegSt.total [] : Nat) = half := Nat.sub_zero _
    rw [hfr]
    have hki2 := HA.out.1
    have hki3 := HA.out.2
    go_wp2_with fail
    refine (lused_le HE4.out).mono ?_; rintro e w5 ⟨rfl, E5⟩
    have HE5 := Lib.hid E5
    clear E5 HE4 hki2 hki3 hfr
    have hus : SegSt.total [] = 0 := rfl
    rw [hus]
    go_wp2_with fail
    refine (lgen_le HE5.out).mono ?_; rintro e w6 ⟨rfl, rfl⟩
    go_wp2_with fail
    refine (lrecords_le HE5.out (by decide)).mono ?_; rintro e w7 ⟨A2, c2, us, rfl, E7, _, _⟩
    have HF := Lib.hid E7.bel
    clear E7 HE5
    go_wp2_with fail
    go_ret
    exact ⟨rfl, HF.out⟩
end Go.Proofs.YtdlcngmcjidomaaDoor
