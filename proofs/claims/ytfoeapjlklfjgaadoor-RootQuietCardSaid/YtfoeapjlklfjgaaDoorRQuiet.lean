/- The law RootQuiet, walked. No condition. -/
import Derived.Test.YtfoeapjlklfjgaaDoorRootC
import Derived.Test.YtfoeapjlklfjgaaDoorAlike
namespace Go.Proofs.YtfoeapjlklfjgaaDoor
set_option linter.unusedSimpArgs false
set_option linter.unusedVariables false
open Go.RowKit

theorem zero_gen (n i : Nat) : genOf ((DSt.new n).sure.getD i []) i = 0 := by
  have hz : (DSt.new n).sure.getD i [] = List.replicate 64 0 ∨ (DSt.new n).sure.getD i [] = [] := by
    by_cases h : i < n
    · left
      show (List.replicate n (List.replicate 64 0)).getD i [] = _
      rw [List.getD_eq_getElem?_getD, List.getElem?_replicate, if_pos h]; rfl
    · right
      show (List.replicate n (List.replicate 64 0)).getD i [] = _
      rw [List.getD_eq_getElem?_getD, List.getElem?_replicate, if_neg h]; rfl
  rcases hz with e | e
  · rw [e]
    have : Cl.isEnc (List.replicate 64 0) = false := by
      unfold Cl.isEnc
      have : (Cl.raw (List.replicate 64 0)).may = false := by
        unfold Cl.may Cl.raw
        exact decide_eq_false (fun h => by have := h.1; simp at this)
      rw [this]; simp
    unfold genOf isRootL
    rw [this]; rfl
  · rw [e]; exact genOf_nil i
theorem new_len (n : Nat) : (DSt.new n).sure.length = n := List.length_replicate
theorem quiet_one (gen : Nat) : (DSt.new 1).save gen = (DSt.new 1, 1) ∧ (DSt.new 1).load = (0, 1) := ⟨save_arg (.inl (by decide)), rfl⟩
theorem quiet_zero {K : Nat} (hK : 2 ≤ K) : (DSt.new K).load = (0, 0) := by
  have h := DSt.load_plain (s := DSt.new K) rfl rfl (by rw [new_len]; exact hK)
  rw [zero_gen, zero_gen] at h
  exact h
theorem quiet_save {K gen : Nat} (hK : 2 ≤ K) (h0 : 0 < gen) (hg : gen < 4294967296) : ∃ s1, (DSt.new K).save gen = (s1, 0) ∧ s1.load = (gen, 0) ∧ s1.begun ≤ 2 ∧ s1.pend = [] := by
  rcases DSt.save_cases (s := DSt.new K) rfl rfl (by rw [new_len]; exact hK) (gen := gen) (by omega) with ⟨e, _, _⟩ | ⟨_, h⟩ | ⟨_, _, h⟩
  · refine ⟨_, e, ?_, (by decide : 0 + 1 + 1 ≤ 2), rfl⟩
    have hl : ((DSt.new K).sure.set (gen % 2) (rootS gen)).length = K := by rw [List.length_set]; exact new_len K
    have h1 := DSt.load_plain (s := { (DSt.new K).beg.beg with sure := (DSt.new K).sure.set (gen % 2) (rootS gen), pend := [] }) rfl rfl (by show 2 ≤ ((DSt.new K).sure.set (gen % 2) (rootS gen)).length; rw [hl]; exact hK)
    rw [h1]
    have hm : gen % 2 = 0 ∨ gen % 2 = 1 := by omega
    have hgr := genOf_root h0 hg
    have hlt : gen % 2 < (DSt.new K).sure.length := by rw [new_len]; omega
    congr 1
    show max (genOf (((DSt.new K).sure.set (gen % 2) (rootS gen)).getD 0 []) 0) (genOf (((DSt.new K).sure.set (gen % 2) (rootS gen)).getD 1 []) 1) = gen
    rcases hm with hm | hm
    · rw [hm] at hlt hgr ⊢
      rw [DSt.getD_set hlt, DSt.getD_set hlt, if_pos rfl, if_neg (by decide), zero_gen, hgr]
      omega
    · rw [hm] at hlt hgr ⊢
      rw [DSt.getD_set hlt, DSt.getD_set hlt, if_pos rfl, if_neg (by decide), zero_gen, hgr]
      omega
  · cases h
  · cases h

set_option maxRecDepth 100000 in
set_option maxHeartbeats 6400000 in
theorem rootQuiet_any (n gen : Nat) (w : World) (hn : n < 256) (hg : gen < 4294967296) :
    Calls Tryd.prog 13 #[.int .u8 (n : Int), .int .u32 (gen : Int)] w fun e w' => e = .returned (.bool true) ∧ Below w.heap.size w w' := by
  obtain ⟨k, hk⟩ : ∃ k, n % 8 = k := ⟨_, rfl⟩
  have hk8 : k < 8 := by omega
  have hki : (n : Int) % 8 = (k : Int) := by omega
  have hki2 : (n : Int).tmod 8 = (k : Int) := by rw [Int.tmod_eq_emod_of_nonneg (by omega)]; exact hki
  obtain ⟨K, hKK⟩ : ∃ K, 1 + k = K := ⟨_, rfl⟩
  have hKi : (1 : Int) + (k : Int) = (K : Int) := by omega
  have HK := Lib.hid (And.intro (show wrap64 ((1 : Int) + (k : Int)) = (K : Int) from (IntWalk.wrap64_in _ (by omega)).trans hKi) hKi)
  clear hk hKi
  by_cases hk0 : k = 0
  · have hge : ¬ (1 : Int) ≤ (k : Int) := by omega
    have hged : decide ((1 : Int) ≤ (k : Int)) = false := decide_eq_false hge
    have HH := Lib.hid (show (DSt.new K).save gen = (DSt.new K, 1) ∧ (DSt.new K).load = (0, 1) ∧ (DSt.new K).save 0 = (DSt.new K, 1) ∧ (DSt.new K).begun ≤ 2 ∧ (DSt.new K).pend = [] from by
      have e : K = 1 := by omega
      subst e
      exact ⟨(quiet_one gen).1, (quiet_one gen).2, (quiet_one 0).1, by decide, rfl⟩)
    clear hk0
    go_enter Tryd.func13, Tryd.ntmps13
    go_wp2_with fail
    refine (rawake_any _).mono ?_; rintro e w1 ⟨rfl, hb1⟩
    have hKr := HK.out.1
    have hKs := HK.out.2
    go_wp2_with fail
    refine (dnew_de K (by clear hKr; omega) (by clear hKr; omega) _ hb1).mono ?_; rintro e w2 ⟨g, rfl, E⟩
    clear hKr hKs
    go_wp2_with fail
    refine (save_any E gen hg (by show 0 < _; decide) (by show 0 < _; decide)).mono ?_; rintro e w3 ⟨rfl, E⟩
    rw [HH.out.1] at E ⊢
    dsimp only at E ⊢
    go_wp2_with fail
    refine (dimage_de E).mono ?_; rintro e w4 ⟨A4, n4, c4, rfl, E⟩
    go_wp2_with fail
    refine (load_any E).mono ?_; rintro e w5 ⟨rfl, hb5⟩
    rw [HH.out.2.1]
    have E := E.below hb5
    clear hb5
    go_wp2_with fail
    refine (load_any E).mono ?_; rintro e w6 ⟨rfl, hb6⟩
    rw [HH.out.2.1]
    have E := E.below hb6
    clear hb6
    go_wp2_with fail
    refine (save_any E 0 (by decide) (by have := HH.out.2.2.2.1; omega) (by rw [HH.out.2.2.2.2]; decide)).mono ?_; rintro e w7 ⟨rfl, E⟩
    rw [HH.out.2.2.1] at E ⊢
    dsimp only at E ⊢
    go_wp2_with fail
    refine (dimage_de E).mono ?_; rintro e w8 ⟨A8, n8, c8, rfl, E⟩
    go_wp2_with fail
    refine (alike_any (E.img 1 rfl) (E.img 0 rfl)).mono ?_; rintro e w9 ⟨⟨q9, rfl⟩, rfl⟩
    rw [decide_eq_true rfl]
    have E := E.drewN q9
    go_wp2_with fail
    go_ret
    exact ⟨rfl, E.bel⟩
  · have hge : (1 : Int) ≤ (k : Int) := by omega
    have hged : decide ((1 : Int) ≤ (k : Int)) = true := decide_eq_true hge
    have hK2 : 2 ≤ K := by omega
    clear hk0
    by_cases h0 : gen = 0
    · subst h0
      have HH := Lib.hid (show (DSt.new K).save 0 = (DSt.new K, 1) ∧ (DSt.new K).load = (0, 0) ∧ (DSt.new K).save 0 = (DSt.new K, 1) ∧ (DSt.new K).begun ≤ 2 ∧ (DSt.new K).pend = [] from
        ⟨save_arg (.inr rfl), quiet_zero hK2, save_arg (.inr rfl), (by show 0 ≤ 2; decide), rfl⟩)
      go_enter Tryd.func13, Tryd.ntmps13
      go_wp2_with fail
      refine (rawake_any _).mono ?_; rintro e w1 ⟨rfl, hb1⟩
      have hKr := HK.out.1
      have hKs := HK.out.2
      go_wp2_with fail
      refine (dnew_de K (by clear hKr; omega) (by clear hKr; omega) _ hb1).mono ?_; rintro e w2 ⟨g, rfl, E⟩
      clear hKr hKs
      go_wp2_with fail
      refine (save_any E 0 hg (by show 0 < _; decide) (by show 0 < _; decide)).mono ?_; rintro e w3 ⟨rfl, E⟩
      rw [HH.out.1] at E ⊢
      dsimp only at E ⊢
      go_wp2_with fail
      refine (dimage_de E).mono ?_; rintro e w4 ⟨A4, n4, c4, rfl, E⟩
      go_wp2_with fail
      refine (load_any E).mono ?_; rintro e w5 ⟨rfl, hb5⟩
      rw [HH.out.2.1]
      have E := E.below hb5
      clear hb5
      go_wp2_with fail
      refine (load_any E).mono ?_; rintro e w6 ⟨rfl, hb6⟩
      rw [HH.out.2.1]
      have E := E.below hb6
      clear hb6
      go_wp2_with fail
      refine (save_any E 0 (by decide) (by have := HH.out.2.2.2.1; omega) (by rw [HH.out.2.2.2.2]; decide)).mono ?_; rintro e w7 ⟨rfl, E⟩
      rw [HH.out.2.2.1] at E ⊢
      dsimp only at E ⊢
      go_wp2_with fail
      refine (dimage_de E).mono ?_; rintro e w8 ⟨A8, n8, c8, rfl, E⟩
      go_wp2_with fail
      refine (alike_any (E.img 1 rfl) (E.img 0 rfl)).mono ?_; rintro e w9 ⟨⟨q9, rfl⟩, rfl⟩
      rw [decide_eq_true rfl]
      have E := E.drewN q9
      go_wp2_with fail
      go_ret
      exact ⟨rfl, E.bel⟩
    · obtain ⟨s1, h1, h2, h3, h4⟩ := quiet_save hK2 (by omega : 0 < gen) hg
      have HH := Lib.hid (And.intro h1 (And.intro h2 (And.intro (save_arg (s := s1) (gen := 0) (.inr rfl)) (And.intro h3 h4))))
      have hgi : (0 : Int) < (gen : Int) := by omega
      have hgd : decide ((0 : Int) < (gen : Int)) = true := decide_eq_true hgi
      have hgd2 : 0 < gen := by omega
      have hgg : ((gen : Int) == (gen : Int)) = true := by simp
      have hgn : ((gen : Int) != (gen : Int)) = false := by simp
      clear h0 h1 h2 h3 h4
      go_enter Tryd.func13, Tryd.ntmps13
      go_wp2_with fail
      refine (rawake_any _).mono ?_; rintro e w1 ⟨rfl, hb1⟩
      have hKr := HK.out.1
      have hKs := HK.out.2
      go_wp2_with fail
      refine (dnew_de K (by clear hKr; omega) (by clear hKr; omega) _ hb1).mono ?_; rintro e w2 ⟨g, rfl, E⟩
      clear hKr hKs
      go_wp2_with fail
      refine (save_any E gen hg (by show 0 < _; decide) (by show 0 < _; decide)).mono ?_; rintro e w3 ⟨rfl, E⟩
      rw [HH.out.1] at E ⊢
      dsimp only at E ⊢
      go_wp2_with fail
      refine (dimage_de E).mono ?_; rintro e w4 ⟨A4, n4, c4, rfl, E⟩
      go_wp2_with fail
      refine (load_any E).mono ?_; rintro e w5 ⟨rfl, hb5⟩
      rw [HH.out.2.1]
      have E := E.below hb5
      clear hb5
      go_wp2_with fail
      refine (load_any E).mono ?_; rintro e w6 ⟨rfl, hb6⟩
      rw [HH.out.2.1]
      have E := E.below hb6
      clear hb6
      go_wp2_with fail
      refine (save_any E 0 (by decide) (by have := HH.out.2.2.2.1; omega) (by rw [HH.out.2.2.2.2]; decide)).mono ?_; rintro e w7 ⟨rfl, E⟩
      rw [HH.out.2.2.1] at E ⊢
      dsimp only at E ⊢
      go_wp2_with fail
      refine (dimage_de E).mono ?_; rintro e w8 ⟨A8, n8, c8, rfl, E⟩
      go_wp2_with fail
      refine (alike_any (E.img 1 rfl) (E.img 0 rfl)).mono ?_; rintro e w9 ⟨⟨q9, rfl⟩, rfl⟩
      rw [decide_eq_true rfl]
      have E := E.drewN q9
      go_wp2_with fail
      go_ret
      exact ⟨rfl, E.bel⟩
end Go.Proofs.YtfoeapjlklfjgaaDoor
