/- The contract of heijunkaref06.Split. No condition but the reach of a slice. -/
import Derived.Test.YtdlcngmcjidomaaDoorCellG
namespace Go.Proofs.YtdlcngmcjidomaaDoor
set_option linter.unusedSimpArgs false
set_option linter.unusedVariables false
open Go.RowKit

theorem clinfo : (Tryd.prog.info? 73).map (fun i => (i.zero, i.size, i.bytes)) = some (some (.agg #[.int .u32 0, .int .u32 0, .int .i64 0, .int .i64 0, .slice none 0 0]), 5, 48) := by kernel_rfl
theorem cflat_snoc (xs : List CEl) (e : CEl) : cflat (xs ++ [e]) = cflat xs ++ e.vs := by rw [cflat_append]; congr 1
theorem vs_one (e : CEl) : ∀ u ∈ e.vs, u.oneCell' = true := by
  intro u hu
  simp only [CEl.vs, List.mem_cons, List.not_mem_nil, or_false] at hu
  rcases hu with rfl | rfl | rfl | rfl | rfl <;> rfl
/-- A part of a record, where the record lies. -/
def cutAtEl (gs sq : Nat) (l : List Nat) (b o n c k : Nat) : CEl := ⟨Cl.cellAt gs sq l k, some ⟨b, o + 49 * k, none⟩, min 49 (n - 49 * k), c - 49 * k⟩
theorem cutAtEl_in {w : World} {gs sq b o n c k : Nat} {l : List Nat} (hr : Ints w .u8 256 (some ⟨b, o, none⟩) n c l) (hg : gs < 4294967296) (hs : sq < 4294967296) (hk : 49 * k < n) (hn : n ≤ 392) : (cutAtEl gs sq l b o n c k).In w := by
  have h1 := hr.cut (k := 49 * k) (by omega)
  have hc := hr.rd.cap
  rw [if_neg (by omega), Option.map_some, add_plain] at h1
  have h2 := h1.take (k := min 49 (n - 49 * k)) (c' := c - 49 * k) (by omega) (by omega)
  have hl := hr.len
  refine ⟨?_, hg, hs, ?_, ?_, ?_⟩
  · show Ints w .u8 256 _ _ _ ((l.drop (49 * k)).take 49)
    have e : (l.drop (49 * k)).take (min 49 (n - 49 * k)) = (l.drop (49 * k)).take 49 := by
      rcases Nat.le_total 49 (n - 49 * k) with h | h
      · rw [Nat.min_eq_left h]
      · rw [Nat.min_eq_right h, List.take_of_length_le (by rw [List.length_drop]; omega), List.take_of_length_le (by rw [List.length_drop]; omega)]
    rw [← e]; exact h2
  · show -9223372036854775808 ≤ ((k : Nat) : Int) ∧ ((k : Nat) : Int) ≤ 9223372036854775807
    omega
  · show -9223372036854775808 ≤ ((Cl.need l.length : Nat) : Int) ∧ ((Cl.need l.length : Nat) : Int) ≤ 9223372036854775807
    have := Cl.need_le l.length
    omega
  · show min 49 (n - 49 * k) ≤ 140737488355000
    omega
/-- What Split hands back. -/
def SplitPost (w : World) (gs sq : Nat) (l : List Nat) (e : Ending) (w' : World) : Prop :=
  ∃ A m c xs, e = .returned (.tuple #[.slice A m c, .int .i64 (Cl.splitCode l)]) ∧ OwnR w' w.heap.size 73 5 A m c (cflat xs) ∧ (∀ e ∈ xs, e.In w') ∧ xs.map (·.x) = Cl.split gs sq l ∧ Below w.heap.size w w'
theorem SplitPost.len {w w' : World} {A : Option Addr} {m c : Nat} {xs : List CEl} {gs sq : Nat} {l : List Nat} (h : OwnR w' w.heap.size 73 5 A m c (cflat xs)) (hx : xs.map (·.x) = Cl.split gs sq l) : m = Cl.need l.length ∧ m ≤ 8 := by
  have h1 := h.len
  rw [cflat_len] at h1
  have h2 := congrArg List.length hx
  rw [List.length_map, Cl.split_len] at h2
  have := Cl.need_le l.length
  omega
theorem split_nil {gs sq : Nat} {l : List Nat} (h : Cl.need l.length = 0) : Cl.split gs sq l = [] := by unfold Cl.split; rw [h]; rfl
theorem split_upto (gs sq : Nat) (l : List Nat) (b o n c : Nat) : ((List.range (Cl.need l.length)).map (cutAtEl gs sq l b o n c)).map (·.x) = Cl.split gs sq l := by
  rw [List.map_map]; rfl

end Go.Proofs.YtdlcngmcjidomaaDoor
