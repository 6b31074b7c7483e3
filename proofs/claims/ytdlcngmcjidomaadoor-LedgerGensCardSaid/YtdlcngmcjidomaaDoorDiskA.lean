/- The small functions of disk: is, begin, Plan, Down, Sectors; bytes.Clone. No condition but the reach of a slice. -/
import Derived.Test.YtdlcngmcjidomaaDoorDisk
namespace Go.Proofs.YtdlcngmcjidomaaDoor
set_option linter.unusedSimpArgs false
set_option linter.unusedVariables false
open Go.RowKit

theorem dinfo_u8 : (Tryd.prog.info? 5).map (fun i => (i.zero, i.size, i.bytes)) = some (some (.int .u8 0), 1, 1) := by kernel_rfl
theorem ret_bool' {a b : Bool} (h : a = b) : Ending.returned (.bool a) = .returned (.bool b) := by rw [h]
theorem ret_int' {k : IntKind} {a b : Int} (h : a = b) : Ending.returned (.int k a) = .returned (.int k b) := by rw [h]

section
variable {w : World} {T : List Nat} {g : Nat} {s : DSt}
theorem has_yes {s : DSt} {i : Int} (h0 : 0 ≤ i) (h1 : i < s.sure.length) : s.has i = true := decide_eq_true ⟨h0, h1⟩
theorem has_no {s : DSt} {i : Int} (h : ¬ (0 ≤ i ∧ i < s.sure.length)) : s.has i = false := decide_eq_false h

set_option maxRecDepth 100000 in
theorem is_any (D : DiskAt w T g s) (i : Int) : Calls Tryd.prog 39 #[.pointer (some ⟨g, 0, none⟩), .int .i64 i] w fun e w' => e = .returned (.bool (s.has i)) ∧ w = w' := by
  obtain ⟨A, n, c, pA, pn, pc, xs, ys, D⟩ := D.ex
  have hn := D.n_eq
  have h0 := D.c0
  by_cases hi : 0 ≤ i
  · by_cases hl : i < (n : Int)
    · have hh := Lib.hid (has_yes hi (by omega : i < s.sure.length))
      clear hn D
      go_enter Tryd.func39, Tryd.ntmps39
      go_wp2_with fail
      go_ret
      exact ⟨ret_bool' hh.out.symm, rfl⟩
    · have hh := Lib.hid (has_no (i := i) (fun h => by omega : ¬ (0 ≤ i ∧ i < s.sure.length)))
      clear hn D
      go_enter Tryd.func39, Tryd.ntmps39
      go_wp2_with fail
      go_ret
      exact ⟨ret_bool' hh.out.symm, rfl⟩
  · have hh := Lib.hid (has_no (i := i) (fun h => by omega : ¬ (0 ≤ i ∧ i < s.sure.length)))
    clear hn D
    go_enter Tryd.func39, Tryd.ntmps39
    go_wp2_with fail
    go_ret
    exact ⟨ret_bool' hh.out.symm, rfl⟩

set_option maxRecDepth 100000 in
theorem down_any (D : DiskAt w T g s) : Calls Tryd.prog 33 #[.pointer (some ⟨g, 0, none⟩)] w fun e w' => e = .returned (.bool s.down) ∧ w = w' := by
  obtain ⟨A, n, c, pA, pn, pc, xs, ys, D⟩ := D.ex
  have h0 := D.c2
  clear D
  go_enter Tryd.func33, Tryd.ntmps33
  go_wp2_with fail
  go_ret
  exact ⟨rfl, rfl⟩
set_option maxRecDepth 100000 in
theorem sectors_any (D : DiskAt w T g s) : Calls Tryd.prog 31 #[.pointer (some ⟨g, 0, none⟩)] w fun e w' => e = .returned (.int .i64 (s.sure.length : Nat)) ∧ w = w' := by
  obtain ⟨A, n, c, pA, pn, pc, xs, ys, D⟩ := D.ex
  have h0 := D.c0
  have hn := Lib.hid D.n_eq
  clear D
  go_enter Tryd.func31, Tryd.ntmps31
  go_wp2_with fail
  go_ret
  exact ⟨by rw [hn.out]; rfl, rfl⟩
end

set_option maxRecDepth 100000 in
set_option maxHeartbeats 400000 in
theorem clone_any (A : Option Addr) (n c : Nat) (l : List Nat) (w : World) (hr : Ints w .u8 256 A n c l) (hA : A ≠ none) (hn : n ≤ 140737488355328) :
    Calls Tryd.prog 41 #[.slice A n c] w fun e w' => ∃ A' c', e = .returned (.slice A' n c') ∧ OwnI w' w.heap.size .u8 256 5 A' n c' l ∧ Below w.heap.size w w' := by
  cases A with
  | none => exact (hA rfl).elim
  | some ad =>
    have q22 : ∀ (w : World) (a : Option Addr) (n c n' c' : Nat), (binOp .eql 22 (.slice a n c) (.slice none n' c')).run Tryd.prog w = .ok (.bool a.isNone) w := fun w a n c n' c' => Lib.run_eql_slice_nil w _ _ a n c n' c' Tryd.underlying22
    go_enter Tryd.func41, Tryd.ntmps41
    go_wp2_with (at_builtin; go_loud (refine wpList_appI _ rfl (.tmp 5) (.tmp 6) _ rfl 5 1 Tryd.underlying22 dinfo_u8 (by omega) (OwnI.empty (base := w.heap.size) .u8 256 5 rfl (Nat.le_refl _)) rfl (hr.alloc _) rfl (by omega) (by simp) ?_); intro A2 c2 w3 ho3 hg3 ha3)
    go_ret
    simp only [List.nil_append, Nat.zero_add] at ho3
    exact ⟨A2, c2, by simp, ho3, below_own ((Below.refl _ _).alloc (Nat.le_refl _) _) hg3 (by simp) (by simp)⟩
end Go.Proofs.YtdlcngmcjidomaaDoor
