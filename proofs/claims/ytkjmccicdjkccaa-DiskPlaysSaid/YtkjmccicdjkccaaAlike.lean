/- heijunkaref05.Alike: are two slices of rows alike? No condition. -/
import Derived.Test.YtkjmccicdjkccaaDiskJ
namespace Go.Proofs.Ytkjmccicdjkccaa
set_option linter.unusedSimpArgs false
set_option linter.unusedVariables false
open Go.RowKit

section
variable {w : World} {base : Nat} {A : Option Addr} {n c : Nat} {ls : List (List Nat)}
theorem Img.n_le (h : Img w base A n c ls) : (n : Int) ≤ 9223372036854775807 := by
  obtain ⟨xs, h1, _⟩ := h.ex
  rcases h1.form with ⟨_, rfl, _⟩ | ⟨_, _, _, _, _, h2, h3, _⟩
  · decide
  · unfold maxLen at h3; omega
theorem BEl.In.n_le {x : BEl} (h : x.In w) : (x.n : Int) ≤ 9223372036854775807 := by
  rcases h.own.own.form with ⟨_, h0, _⟩ | ⟨_, _, _, _, _, h2, h3, _⟩
  · rw [h0]; decide
  · unfold maxLen at h3; omega
end
set_option maxRecDepth 100000 in
set_option maxHeartbeats 6400000 in
theorem alike_any {w : World} {b1 b2 : Nat} {A B : Option Addr} {n c m d : Nat} {ls ks : List (List Nat)} (X : Img w b1 A n c ls) (Y : Img w b2 B m d ks) :
    Calls Try.prog 23 #[.slice A n c, .slice B m d] w fun e w' => (∃ q, w' = w.drewN q) ∧ e = .returned (.bool (decide (ls = ks))) := by
  have hn := X.n_le
  have hm := Y.n_le
  by_cases hnm : n = m
  · subst hnm
    go_enter Try.func23, Try.ntmps23
    go_wp2_with fail
    go_loopw [5] (fun i wr => ∃ j : Nat, j ≤ n ∧ i = .int .i64 j ∧ (∃ q, wr = w.drewN q) ∧ ls.take j = ks.take j) (fun i _ => n - (intOf i).toNat)
    case atStart => exact ⟨0, by omega, rfl, ⟨0, rfl⟩, rfl⟩
    case round =>
      obtain ⟨j, hj, rfl, ⟨q, rfl⟩, heq⟩ := hrel
      by_cases hlt : j < n
      · obtain ⟨b, x, rfl, hx, hlx, hc⟩ := X.get hlt
        obtain ⟨b', y, rfl, hy, hly, hcy⟩ := Y.get hlt
        have hc1 : (w.drewN q).cell? ⟨b, j, none⟩ = some (.slice x.A x.n x.c) := hc
        have hc2 : (w.drewN q).cell? ⟨b', j, none⟩ = some (.slice y.A y.n y.c) := hcy
        have hl1 := hx.len
        have hl2 := hy.len
        have hnx := hx.n_le
        have hny := hy.n_le
        have hlt' : (j : Int) < (n : Int) := by omega
        have hj0 : (0 : Int) ≤ (j : Int) := by omega
        have HL := Lib.hid (And.intro hlx (And.intro hly heq))
        clear hlx hly heq
        by_cases hxy : x.n = y.n
        · have ht : ((x.n : Int) != (y.n : Int)) = false := by simp [hxy]
          have HN := Lib.hid hxy
          clear hxy
          go_wp2_with (go_quiet (fail))
          go_loopw [6] (fun i wr => ∃ p : Nat, p ≤ x.n ∧ i = .int .i64 p ∧ (∃ q, wr = w.drewN q) ∧ x.l.take p = y.l.take p) (fun i _ => x.n - (intOf i).toNat)
          case atStart => exact ⟨0, by omega, rfl, ⟨_, World.drewN_drewN ..⟩, rfl⟩
          case round =>
            obtain ⟨p, hp, rfl, ⟨q2, rfl⟩, heq2⟩ := hrel
            have hd1 : (w.drewN q2).cell? ⟨b, j, none⟩ = some (.slice x.A x.n x.c) := hc
            have hd2 : (w.drewN q2).cell? ⟨b', j, none⟩ = some (.slice y.A y.n y.c) := hcy
            clear hc1 hc2
            by_cases hltp : p < x.n
            · obtain ⟨g, o, u, hxA, _, hu, hul, hcu⟩ := hx.ints.get hltp
              obtain ⟨g', o', v, hyA, _, hv, hvl, hcv⟩ := hy.ints.get (show p < y.n by rw [← HN.out]; exact hltp)
              have hltp' : (p : Int) < (x.n : Int) := by omega
              have hltq' : (p : Int) < (y.n : Int) := by rw [← HN.out]; omega
              have hp0 : (0 : Int) ≤ (p : Int) := by omega
              rw [hxA] at hd1 hc
              rw [hyA] at hd2 hcy
              have hcu' : (w.drewN q2).cell? ⟨g, o + p, none⟩ = some (.int .u8 (u : Int)) := hcu
              have hcv' : (w.drewN q2).cell? ⟨g', o' + p, none⟩ = some (.int .u8 (v : Int)) := hcv
              have HU := Lib.hid (And.intro hu (And.intro hv heq2))
              clear hu hv heq2 hxA hyA
              by_cases huv : u = v
              · have ht2 : ((u : Int) != (v : Int)) = false := by simp [huv]
                have HUV := Lib.hid huv
                clear huv
                go_wp2_with (go_quiet (fail))
                exact ⟨⟨p + 1, by omega, by go_num, ⟨_, rfl⟩, by rw [List.take_add_one, List.take_add_one, HU.out.2.2, HU.out.1, HU.out.2.1, HUV.out]⟩, by simp [intOf]; omega⟩
              · have ht2 : ((u : Int) != (v : Int)) = true := by simp; omega
                have hne : ls ≠ ks := by
                  rintro rfl
                  have e := HL.out.1.symm.trans HL.out.2.1
                  injection e with e
                  have e2 := HU.out.1
                  rw [e] at e2
                  have := e2.symm.trans HU.out.2.1
                  exact huv (Option.some.inj this)
                clear huv
                go_wp2_with (go_quiet (fail))
                go_ret
                exact ⟨⟨_, World.drewN_drewN ..⟩, ret_bool (decide_eq_false hne).symm⟩
            · obtain rfl : p = x.n := by omega
              have hge : ¬ ((x.n : Int) < (x.n : Int)) := by omega
              have he2 : x.l = y.l := by
                rw [List.take_of_length_le (by omega), List.take_of_length_le (by rw [hl2, ← HN.out]; omega)] at heq2
                exact heq2
              have HE := Lib.hid he2
              clear heq2 he2
              go_wp2_with fail
              exact ⟨⟨j + 1, by omega, by go_num, ⟨_, rfl⟩, by rw [List.take_add_one, List.take_add_one, HL.out.2.2, HL.out.1, HL.out.2.1, HE.out]⟩, by simp [intOf]; omega⟩
        · have ht : ((x.n : Int) != (y.n : Int)) = true := by simp; omega
          have hne : ls ≠ ks := by
            rintro rfl
            have e := HL.out.1.symm.trans HL.out.2.1
            injection e with e
            exact hxy (by rw [← hl1, ← hl2, e])
          clear hxy
          go_wp2_with (go_quiet (fail))
          go_ret
          exact ⟨⟨_, World.drewN_drewN ..⟩, ret_bool (decide_eq_false hne).symm⟩
      · obtain rfl : j = n := by omega
        have he : ls = ks := by
          rw [List.take_of_length_le (by rw [X.len]; omega), List.take_of_length_le (by rw [Y.len]; omega)] at heq
          exact heq
        have HE := Lib.hid he
        clear heq he
        go_wp2_with fail
        go_ret
        exact ⟨⟨_, rfl⟩, ret_bool (decide_eq_true HE.out).symm⟩
  · have hne : ls ≠ ks := by
      rintro rfl
      exact hnm (X.len.symm.trans Y.len)
    have ht : ((n : Int) != (m : Int)) = true := by simp; omega
    go_enter Try.func23, Try.ntmps23
    go_wp2_with fail
    go_ret
    exact ⟨⟨0, rfl⟩, ret_bool (decide_eq_false hne).symm⟩
end Go.Proofs.Ytkjmccicdjkccaa
