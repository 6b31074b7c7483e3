/- heijunkaref01.Rows: are two rows of bytes alike? No condition but the reach of a slice. -/
import Derived.Test.YtkjmccicdjkccaaBase
namespace Go.Proofs.Ytkjmccicdjkccaa
set_option linter.unusedSimpArgs false
set_option linter.unusedVariables false
open Go.RowKit

theorem ret_bool {a b : Bool} (h : a = b) : Ending.returned (.bool a) = .returned (.bool b) := by rw [h]
set_option maxRecDepth 100000 in
set_option maxHeartbeats 1600000 in
/-- heijunkaref01.Rows. -/
theorem rows_any (A B : Option Addr) (n c m d : Nat) (l k : List Nat) (w : World) (ha : Ints w .u8 256 A n c l) (hb : Ints w .u8 256 B m d k) (hn : n ≤ 140737488355328) (hm : m ≤ 140737488355328) :
    Calls Try.prog 15 #[.slice A n c, .slice B m d] w fun e w' => (∃ q, w' = w.drewN q) ∧ e = .returned (.bool (decide (l = k))) := by
  by_cases hnm : n = m
  · subst hnm
    go_enter Try.func15, Try.ntmps15
    go_wp2_with fail
    go_loopw [5] (fun i wr => ∃ j : Nat, j ≤ n ∧ i = .int .i64 j ∧ (∃ q, wr = w.drewN q) ∧ l.take j = k.take j) (fun i _ => n - (intOf i).toNat)
    case atStart => exact ⟨0, by omega, rfl, ⟨0, rfl⟩, rfl⟩
    case round =>
      obtain ⟨j, hj, rfl, ⟨q, rfl⟩, heq⟩ := hrel
      by_cases hlt : j < n
      · obtain ⟨b, o, x, rfl, _, hx, hxl, hc⟩ := ha.get hlt
        obtain ⟨b', o', y, rfl, _, hy, hyl, hcy⟩ := hb.get hlt
        have hcx' : (w.drewN q).cell? ⟨b, o + j, none⟩ = some (.int .u8 (x : Int)) := hc
        have hcy' : (w.drewN q).cell? ⟨b', o' + j, none⟩ = some (.int .u8 (y : Int)) := hcy
        have HE := Lib.hid heq
        have HX := Lib.hid hx
        have HY := Lib.hid hy
        clear heq hx hy
        by_cases hxy : x = y
        · have ht : ((x : Int) != (y : Int)) = false := by simp [hxy]
          have HXY := Lib.hid hxy
          clear hxy
          go_wp2_with (go_quiet (fail))
          exact ⟨⟨j + 1, by omega, by go_num, ⟨_, rfl⟩, by rw [List.take_add_one, List.take_add_one, HE.out, HX.out, HY.out, HXY.out]⟩, by simp [intOf]; omega⟩
        · have ht : ((x : Int) != (y : Int)) = true := by simp; omega
          have hne : l ≠ k := by
            rintro rfl
            have := HX.out.symm.trans HY.out
            exact hxy (Option.some.inj this)
          go_wp2_with (go_quiet (fail))
          go_ret
          exact ⟨⟨_, World.drewN_drewN ..⟩, ret_bool (decide_eq_false hne).symm⟩
      · obtain rfl : j = n := by omega
        have he : l = k := by
          rw [List.take_of_length_le (by rw [ha.len]; omega), List.take_of_length_le (by rw [hb.len]; omega)] at heq
          exact heq
        have HE := Lib.hid he
        clear heq he
        go_wp2_with fail
        go_ret
        exact ⟨⟨_, rfl⟩, ret_bool (decide_eq_true HE.out).symm⟩
  · have hne : l ≠ k := by
      rintro rfl
      exact hnm (ha.len.symm.trans hb.len)
    have ht : ((n : Int) != (m : Int)) = true := by simp; omega
    go_enter Try.func15, Try.ntmps15
    go_wp2_with fail
    go_ret
    exact ⟨⟨0, rfl⟩, ret_bool (decide_eq_false hne).symm⟩
end Go.Proofs.Ytkjmccicdjkccaa
