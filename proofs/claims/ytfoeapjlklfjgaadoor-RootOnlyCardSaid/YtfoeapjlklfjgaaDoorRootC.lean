/- The contract of root.Save, over a law's disk, and what laws of layer 8 ask first. No condition but those of the disk's own functions. -/
import Derived.Test.YtfoeapjlklfjgaaDoorRootB
namespace Go.Proofs.YtfoeapjlklfjgaaDoor
set_option linter.unusedSimpArgs false
set_option linter.unusedVariables false
open Go.RowKit

section
variable {w0 w w' : World} {g : Nat} {s : DSt} {rs : List BEl} {ims : List ImgT}
theorem write_begun (s : DSt) (i : Int) (l : List Nat) : (s.write i l).1.begun ≤ s.begun + 1 := by
  unfold DSt.write
  split
  · show s.begun ≤ _; omega
  · split
    · split
      · show s.begun + 1 ≤ _; omega
      · show s.begun + 1 ≤ _; omega
    · show s.begun ≤ _; omega
theorem save_arg {gen : Nat} (h : s.sure.length < 2 ∨ gen = 0) : s.save gen = (s, 1) := by unfold DSt.save; rw [if_pos h]
theorem save_more {gen r : Nat} (h : ¬ (s.sure.length < 2 ∨ gen = 0)) (hr : gen % 2 = r) : s.save gen = if (s.write (r : Int) (rootS gen)).2 = 0 then (s.write (r : Int) (rootS gen)).1.flush else s.write (r : Int) (rootS gen) := by subst hr; unfold DSt.save; rw [if_neg h]

set_option maxRecDepth 100000 in
set_option maxHeartbeats 6400000 in
theorem save_any (E : DE w0 w g s rs ims) (gen : Nat) (hg : gen < 4294967296) (hb : s.begun < 576460752303423488) (hp : s.pend.length < 1099511627776) :
    Calls Tryd.prog 33 #[.pointer (some ⟨g, 0, none⟩), .int .u32 (gen : Int)] w fun e w' => e = .returned (.int .i64 (s.save gen).2) ∧ DE w0 w' g (s.save gen).1 rs ims := by
  by_cases h2 : s.sure.length < 2
  · have h2i : ((s.sure.length : Nat) : Int) < 2 := by omega
    have h2d : decide (((s.sure.length : Nat) : Int) < 2) = true := decide_eq_true h2i
    have HS := Lib.hid (save_arg (s := s) (gen := gen) (.inl h2))
    go_enter Tryd.func33, Tryd.ntmps33
    go_wp2_with fail
    refine (dsectors_de E).mono ?_; rintro e w1 ⟨rfl, rfl⟩
    go_wp2_with fail
    go_ret
    exact ⟨by rw [HS.out]; rfl, by rw [HS.out]; exact E⟩
  have h2i : ¬ ((s.sure.length : Nat) : Int) < 2 := by omega
  have h2d : decide (((s.sure.length : Nat) : Int) < 2) = false := decide_eq_false h2i
  by_cases h0 : gen = 0
  · have h0i : ((gen : Int) == 0) = true := by simp [h0]
    have HS := Lib.hid (save_arg (s := s) (gen := gen) (.inr h0))
    clear h0
    go_enter Tryd.func33, Tryd.ntmps33
    go_wp2_with fail
    refine (dsectors_de E).mono ?_; rintro e w1 ⟨rfl, rfl⟩
    go_wp2_with fail
    go_ret
    exact ⟨by rw [HS.out]; rfl, by rw [HS.out]; exact E⟩
  have h0i : ((gen : Int) == 0) = false := by simp; omega
  obtain ⟨r, hr⟩ : ∃ r, gen % 2 = r := ⟨_, rfl⟩
  have hri : (gen : Int) % 2 = (r : Int) := by omega
  have HS := Lib.hid (save_more (s := s) (gen := gen) (fun h => h.elim h2 h0) hr)
  clear hr h2 h0
  go_enter Tryd.func33, Tryd.ntmps33
  go_wp2_with fail
  refine (dsectors_de E).mono ?_; rintro e w1 ⟨rfl, rfl⟩
  go_wp2_with fail
  refine (root_any gen hg _).mono ?_; rintro e w2 ⟨A2, rfl, hi2, hb2⟩
  have E2 := E.below hb2
  clear E hb2
  go_wp2_with fail
  have hen := encL_yes (rootC_may gen)
  have HEN := Lib.hid hen
  clear hen
  refine (encode_any gen 0 hg (by decide) 0 1 (by decide) A2 4 4 [114, 111, 111, 116] _ hi2).mono ?_; rintro e w3 ⟨A3, m3, c3, rfl, ho3, hb3⟩
  have hen1 : Cl.encL ⟨gen, 0, 0, 1, [114, 111, 111, 116]⟩ = rootS gen := HEN.out.1
  have hen2 : Cl.encCode ⟨gen, 0, 0, 1, [114, 111, 111, 116]⟩ = 0 := HEN.out.2
  rw [hen1] at ho3
  rw [hen2]
  have hm3 := ho3.len
  rw [rootS_len] at hm3
  subst hm3
  have E3 := E2.below hb3
  clear E2 hb3 hi2 hen1 hen2
  go_wp2_with fail
  refine (dwrite_de E3 (r : Int) ho3 (by decide) (by omega) hp).mono ?_; rintro e w4 ⟨rfl, E4⟩
  have hbw := write_begun s (r : Int) (rootS gen)
  obtain ⟨cd, hcd⟩ : ∃ z, (s.write (r : Int) (rootS gen)).2 = z := ⟨_, rfl⟩
  rw [hcd]
  have HCD := Lib.hid hcd
  clear hcd ho3 E3
  by_cases hc : cd = 0
  · have HF := Lib.hid (show s.save gen = (s.write (r : Int) (rootS gen)).1.flush by rw [HS.out, if_pos (by rw [HCD.out]; exact hc)])
    subst hc
    generalize (s.write (r : Int) (rootS gen)).1 = s4 at *
    go_wp2_with fail
    refine (dflush_de E4 (by omega)).mono ?_; rintro e w5 ⟨rfl, E5⟩
    clear E4
    rw [← HF.out] at E5 ⊢
    go_wp2_with fail
    go_ret
    exact ⟨rfl, E5⟩
  · have HF := Lib.hid (show s.save gen = s.write (r : Int) (rootS gen) by rw [HS.out, if_neg (by rw [HCD.out]; exact hc)])
    have hcn : (cd != 0) = true := by simpa using hc
    clear hc hbw
    go_wp2_with fail
    go_ret
    exact ⟨by rw [HF.out, HCD.out]; rfl, by rw [HF.out]; exact E4⟩
end
theorem Flip_up {gen : Nat} {s : DSt} (h : DSt.Flip s gen) (l : List Nat) : DSt.Flip (s.up l) gen := by
  have e : (s.up l).sure = s.sure := by unfold DSt.up; rw [h.pend]; rfl
  exact ⟨⟨rfl, rfl⟩, by rw [e]; exact h.len, rfl, Nat.zero_le _, by rw [e]; exact h.is, by rw [e]; exact h.other⟩
set_option maxRecDepth 100000 in
set_option maxHeartbeats 3200000 in
theorem rawake_any (w : World) : Calls Tryd.prog 31 #[] w fun e w' => e = .returned (.bool true) ∧ Below w.heap.size w w' := by
  have h1 := DSt.Flip.first (gen := 1) (by decide)
  have hz := DSt.load_plain (s := DSt.new 2) rfl rfl (by decide)
  rw [DSt.new_zero, DSt.new_zero] at hz
  have hz2 : (DSt.new 2).load = (0, 0) := hz.trans rfl
  obtain ⟨s1, hs1⟩ : ∃ s1, ((DSt.new 2).save 1).1 = s1 := ⟨_, rfl⟩
  rw [hs1] at h1
  obtain ⟨s2, hs2⟩ : ∃ s2, s1.up [] = s2 := ⟨_, rfl⟩
  have h2 := Flip_up h1.2 []
  rw [hs2] at h2
  have hl2 := h2.load (by decide) (by decide)
  have HH := Lib.hid (And.intro hz2 (And.intro h1.1 (And.intro hs1 (And.intro hs2 (And.intro hl2 (save_arg (s := s2) (gen := 0) (.inr rfl)))))))
  have hbeg := h2.beg
  have hpnd : s2.pend.length = 0 := by rw [h2.pend]; rfl
  clear hz hz2 h1 hs1 hs2 hl2 h2
  go_enter Tryd.func31, Tryd.ntmps31
  go_wp2_with fail
  refine (dnew_de 2 (by omega) (by omega) _ (Below.refl _ _)).mono ?_; rintro e w1 ⟨g, rfl, E⟩
  go_wp2_with fail
  refine (load_any E).mono ?_; rintro e w2 ⟨rfl, hb2⟩
  rw [HH.out.1]
  have E := E.below hb2
  clear hb2
  go_wp2_with fail
  refine (save_any E 1 (by decide) (by decide) (by decide)).mono ?_; rintro e w3 ⟨rfl, E⟩
  rw [HH.out.2.1]
  rw [HH.out.2.2.1] at E
  go_wp2_with fail
  refine (dup_de E (Ints.nil_ _ .u8 256 none 0) (by omega)).mono ?_; rintro e w4 ⟨⟨_, rfl⟩, E⟩
  rw [HH.out.2.2.2.1] at E
  go_wp2_with fail
  refine (load_any E).mono ?_; rintro e w5 ⟨rfl, hb5⟩
  rw [HH.out.2.2.2.2.1]
  have E := E.below hb5
  clear hb5
  go_wp2_with fail
  refine (save_any E 0 (by decide) (by omega) (by omega)).mono ?_; rintro e w6 ⟨rfl, E⟩
  rw [HH.out.2.2.2.2.2]
  go_wp2_with fail
  go_ret
  exact ⟨rfl, E.bel⟩
end Go.Proofs.YtfoeapjlklfjgaaDoor
