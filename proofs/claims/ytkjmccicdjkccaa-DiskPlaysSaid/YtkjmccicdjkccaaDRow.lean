/- heijunkalaw05.Row. No condition. -/
import Derived.Test.YtkjmccicdjkccaaDiskJ
namespace Go.Proofs.Ytkjmccicdjkccaa
set_option linter.unusedSimpArgs false
set_option linter.unusedVariables false
open Go.RowKit

/-- A row of the law's: 64 bytes of one, or one more. -/
def rowL (c : Nat) (bad : Bool) : List Nat := List.replicate 64 c ++ if bad then [c] else []
theorem rowL_len (c : Nat) : (rowL c false).length = 64 := by unfold rowL; simp
theorem rowL_bad (c : Nat) : (rowL c true).length = 65 := by unfold rowL; simp

set_option maxRecDepth 100000 in
set_option maxHeartbeats 800000 in
theorem row_any (c : Nat) (hc : c < 256) (bad : Bool) (w : World) :
    Calls Try.prog 12 #[.int .u8 (c : Int), .bool bad] w fun e w' => ∃ A n cp, e = .returned (.slice A n cp) ∧ OwnI w' w.heap.size .u8 256 5 A n cp (rowL c bad) ∧ n ≤ 65 ∧ Below w.heap.size w w' := by
  go_enter Try.func12, Try.ntmps12
  go_wp2_with fail
  go_loopw [5, 6] (fun v i wr => ∃ (k : Nat) (A : Option Addr) (cp : Nat), k ≤ 64 ∧ i = .int .i64 k ∧ v = .slice A k cp ∧ OwnI wr w.heap.size .u8 256 5 A k cp (List.replicate k c) ∧ Below w.heap.size w wr) (fun _ i _ => 64 - (intOf i).toNat)
  case atStart => exact ⟨0, none, 0, Nat.zero_le _, rfl, rfl, OwnI.nil_ .., Below.refl _ _⟩
  case round =>
    obtain ⟨k, A, cp, hk, rfl, rfl, ho, hb⟩ := hrel
    have hbs := hb.size
    by_cases hkn : k < 64
    · have hlt : (k : Int) < 64 := by omega
      go_wp2_with (at_builtin; go_loud (refine wpList_appI _ rfl (.tmp 11) (.tmp 13) _ rfl 5 1 Try.underlying29 dinfo_u8 (by omega) (ho.alloc _) rfl (Ints.one .u8 256 5 c rfl hc rfl) rfl (by omega) (by simp; omega) ?_); intro A2 c2 w3 ho3 hg3 ha3)
      have ho4 : OwnI w3 w.heap.size .u8 256 5 A2 (k + 1) c2 (List.replicate (k + 1) c) := by rw [List.replicate_succ']; exact ho3
      exact ⟨⟨k + 1, A2, c2, by omega, by go_num, rfl, ho4, below_own (hb.alloc hbs _) hg3 (by simp; omega) (fun ad he => (ho.lt_ ad he).1)⟩, by simp [intOf]; omega⟩
    · obtain rfl : k = 64 := by omega
      cases bad with
      | false =>
        have H := Lib.hid ho
        clear ho
        go_wp2_with fail
        go_ret
        exact ⟨A, 64, cp, rfl, by unfold rowL; rw [if_neg (by decide), List.append_nil]; exact H.out, by omega, hb⟩
      | true =>
        have HO := Lib.hid ho
        go_wp2_with (at_builtin; go_loud (refine wpList_appI _ rfl (.tmp 16) (.tmp 18) _ rfl 5 1 Try.underlying29 dinfo_u8 (by omega) (ho.alloc _) rfl (Ints.one .u8 256 5 c rfl hc rfl) rfl (by omega) (by simp; omega) ?_); intro A2 c2 w3 ho3 hg3 ha3; have H3 := Lib.hid ho3; clear ho3)
        go_ret
        exact ⟨A2, 65, c2, rfl, H3.out, by omega, below_own (hb.alloc hbs _) hg3 (by simp; omega) (fun ad he => (HO.out.lt_ ad he).1)⟩
end Go.Proofs.Ytkjmccicdjkccaa
