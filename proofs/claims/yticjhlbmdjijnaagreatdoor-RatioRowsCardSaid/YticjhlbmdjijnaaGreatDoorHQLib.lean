/- What package strings tells, of texts as lists: Cut at one sign, HasPrefix, TrimPrefix, Trim. No condition but the reach of a string. -/
import Derived.Test.YticjhlbmdjijnaaGreatDoorHQPMath
import Derived.Test.YticjhlbmdjijnaaGreatDoorG7
import Derived.Test.YticjhlbmdjijnaaGreatDoorShelf
namespace Go.Proofs.YticjhlbmdjijnaaGreatDoor
set_option linter.unusedSimpArgs false
set_option linter.unusedVariables false
open Go.RowKit

theorem qbelow_drewN (w : World) (n : Nat) : Below w.heap.size w (w.drewN n) := ⟨rfl, rfl, rfl, Nat.le_refl _, fun _ _ => rfl⟩
set_option maxRecDepth 100000 in
set_option maxHeartbeats 800000 in
theorem slcut (c : Nat) (hc : c < 256) (l : List Nat) (hl : ∀ x ∈ l, x < 256) (hlen : l.length ≤ 9223372036854775806) (w : World) :
    Calls Tryz.prog 101 #[.string (str l), .string ⟨#[UInt8.ofNat c]⟩] w fun e w' => e = .returned (.tuple #[.string (str (cutH c l)), .string (str (cutT c l)), .bool (decide (c ∈ l))]) ∧ Below w.heap.size w w' := by
  have hix := Tryz.stringslite_Index_one (str l) (UInt8.ofNat c) w
  rw [indexByte_idx l c hl hc] at hix
  obtain ⟨sep, hsep⟩ : ∃ s : ByteArray, (⟨#[UInt8.ofNat c]⟩ : ByteArray) = s := ⟨_, rfl⟩
  have hs1 : sep.size = 1 := by rw [← hsep]; rfl
  rw [hsep] at hix ⊢
  by_cases hm : c ∈ l
  · have h1 := cut_len hm
    obtain ⟨i, hi⟩ : ∃ i, (cutH c l).length = i := ⟨_, rfl⟩
    have e1 : idx c l = (i : Int) := by unfold idx; rw [if_pos hm, hi]
    have r1 := fun w => str_head (P := Tryz.prog) 9 Tryz.underlying9 l i (by omega) w
    have r2 := fun w => str_cut (P := Tryz.prog) 9 Tryz.underlying9 l (i + 1) (by omega) w
    rw [show l.take i = cutH c l by rw [← hi, cutH_take]] at r1
    rw [show l.drop (i + 1) = cutT c l by rw [← hi, cutT_drop hm]] at r2
    have r2' : ∀ w, (Instr.slice 9 (.string (str l)) (some (.int .i64 ((i : Int) + 1))) none none).run Tryz.prog w = .ok (.string (str (cutT c l))) w := fun w => r2 w
    rw [e1] at hix
    have hd : decide (c ∈ l) = true := decide_eq_true hm
    rw [hd]
    have hw1 : IntKind.i64.wrap ((i : Int) + 1) = (i : Int) + 1 := IntWalk.i64_in _ (by omega)
    have hge : (0 : Int) ≤ (i : Int) := by omega
    have hib : (i : Int) + 1 ≤ 9223372036854775807 := by omega
    generalize str (cutH c l) = H at *
    generalize str (cutT c l) = T at *
    generalize str l = S at *
    clear r2 hl hlen h1 hi e1 hm hsep hd
    go_enter Tryz.func101, Tryz.ntmps101
    go_wp2_with fail
    refine hix.mono ?_; rintro e w1 ⟨rfl, rfl⟩
    clear hix
    go_wp2_with (go_quiet (fail))
    go_ret3
    exact ⟨rfl, qbelow_drewN _ _⟩
  · have e1 : idx c l = -1 := by unfold idx; rw [if_neg hm]
    rw [e1] at hix
    rw [decide_eq_false hm, cutH_none hm, cutT_none hm]
    have e0 : str [] = (⟨#[]⟩ : ByteArray) := rfl
    rw [e0]
    generalize str l = S at *
    clear hl hlen e1 hm hsep e0
    go_enter Tryz.func101, Tryz.ntmps101
    go_wp2_with fail
    refine hix.mono ?_; rintro e w1 ⟨rfl, rfl⟩
    clear hix
    go_wp2_with fail
    go_ret3
    exact ⟨rfl, Below.refl _ _⟩
set_option maxRecDepth 100000 in
theorem scut (c : Nat) (hc : c < 256) (l : List Nat) (hl : ∀ x ∈ l, x < 256) (hlen : l.length ≤ 9223372036854775806) (w : World) :
    Calls Tryz.prog 60 #[.string (str l), .string ⟨#[UInt8.ofNat c]⟩] w fun e w' => e = .returned (.tuple #[.string (str (cutH c l)), .string (str (cutT c l)), .bool (decide (c ∈ l))]) ∧ Below w.heap.size w w' := by
  have h := slcut c hc l hl hlen w
  generalize str (cutH c l) = H at *
  generalize str (cutT c l) = T at *
  generalize decide (c ∈ l) = d at *
  generalize str l = S at *
  go_enter Tryz.func60, Tryz.ntmps60
  go_wp2_with fail
  refine h.mono ?_; rintro e w1 ⟨rfl, hb⟩
  go_wp2_with fail
  go_ret3
  exact ⟨rfl, hb⟩
theorem shead (l : List Nat) (hl : ∀ x ∈ l, x < 256) (w : World) : Calls Tryz.prog 102 #[.string (str l), .string ⟨#[45]⟩] w fun e w' => e = .returned (.bool (decide (l[0]? = some 45))) ∧ w = w' := by
  have e : Lib.hasPrefix (str l).data.toList (⟨#[45]⟩ : ByteArray).data.toList = decide (l[0]? = some 45) := by
    rw [str_list]
    cases l with
    | nil => rfl
    | cons x l =>
      have := u8_eq (hl x (by simp)) (show 45 < 256 by decide)
      unfold Lib.hasPrefix
      simp only [List.map_cons, List.isPrefixOf_cons_cons, List.isPrefixOf_nil_left, Bool.and_true, List.getElem?_cons_zero, Option.some.injEq]
      rw [show ((45 : UInt8) == UInt8.ofNat x) = (UInt8.ofNat x == UInt8.ofNat 45) from Bool.beq_comm, this]
  exact (Tryz.strings_HasPrefix (str l) ⟨#[45]⟩ w).mono fun _ _ ⟨h1, h2⟩ => ⟨by rw [h1, e], h2.symm⟩
theorem sbod (l : List Nat) (hl : ∀ x ∈ l, x < 256) (w : World) : Calls Tryz.prog 103 #[.string (str l), .string ⟨#[45]⟩] w fun e w' => e = .returned (.string (str (bod l))) ∧ w = w' := by
  have e : (⟨(Lib.trimPrefix (str l).data.toList (⟨#[45]⟩ : ByteArray).data.toList).toArray⟩ : ByteArray) = str (bod l) := by
    rw [str_list]
    cases l with
    | nil => rfl
    | cons x l =>
      have := u8_eq (hl x (by simp)) (show 45 < 256 by decide)
      unfold Lib.trimPrefix Lib.hasPrefix bod
      simp only [List.map_cons, List.isPrefixOf_cons_cons, List.isPrefixOf_nil_left, Bool.and_true, List.getElem?_cons_zero, Option.some.injEq]
      rw [show ((45 : UInt8) == UInt8.ofNat x) = (UInt8.ofNat x == UInt8.ofNat 45) from Bool.beq_comm, this]
      by_cases hx : x = 45
      · rw [decide_eq_true hx, if_pos rfl, if_pos hx]
        simp [str]
      · rw [decide_eq_false hx, if_neg (by decide), if_neg hx]
        simp [str]
  exact (Tryz.strings_TrimPrefix (str l) ⟨#[45]⟩ w).mono fun _ _ ⟨h1, h2⟩ => ⟨by rw [h1, e], h2.symm⟩
/-- Trim, of digits: nothing is left just if all are digits. -/
theorem strim (l : List Nat) (hl : ∀ x ∈ l, x < 256) (hlen : l.length ≤ 9223372036854775807) (w : World) : ∃ T : ByteArray, T.toList.isEmpty = decide (Digs l) ∧ Calls Tryz.prog 104 #[.string (str l), .string ⟨#[48, 49, 50, 51, 52, 53, 54, 55, 56, 57]⟩] w fun e w' => e = .returned (.string T) ∧ Below w.heap.size w w' := by
  refine ⟨⟨(Lib.trimS (str l).data.toList tens).toArray⟩, ?_, Any.strings_Trim_laid (P := Tryz.prog) Tryz.lays160 (by kernel_rfl) (str l) ⟨#[48, 49, 50, 51, 52, 53, 54, 55, 56, 57]⟩ w (by rw [str_size]; omega) (by decide) (ascii_of_all (by decide))⟩
  by_cases h : Digs l
  · rw [decide_eq_true h]
    exact toList_nil _ ((trim_digs l hl).2 h)
  · rw [decide_eq_false h]
    exact toList_nil_ne _ fun e => h ((trim_digs l hl).1 e)
theorem strim_all (l : List Nat) (hl : ∀ x ∈ l, x < 256) (hlen : l.length ≤ 9223372036854775807) : ∃ T : ByteArray, T.toList.isEmpty = decide (Digs l) ∧ ∀ w : World, Calls Tryz.prog 104 #[.string (str l), .string ⟨#[48, 49, 50, 51, 52, 53, 54, 55, 56, 57]⟩] w fun e w' => e = .returned (.string T) ∧ Below w.heap.size w w' := by
  refine ⟨⟨(Lib.trimS (str l).data.toList tens).toArray⟩, ?_, fun w => Any.strings_Trim_laid (P := Tryz.prog) Tryz.lays160 (by kernel_rfl) (str l) ⟨#[48, 49, 50, 51, 52, 53, 54, 55, 56, 57]⟩ w (by rw [str_size]; omega) (by decide) (ascii_of_all (by decide))⟩
  by_cases h : Digs l
  · rw [decide_eq_true h]
    exact toList_nil _ ((trim_digs l hl).2 h)
  · rw [decide_eq_false h]
    exact toList_nil_ne _ fun e => h ((trim_digs l hl).1 e)
theorem str_empty (l : List Nat) (m : Nat) (hm : l.length = m) : (str l).toList.isEmpty = decide (m = 0) := by
  subst hm
  cases l with
  | nil => exact toList_nil _ rfl
  | cons x l => rw [decide_eq_false (by simp)]; exact toList_nil_ne _ (by simp)
theorem ret_vb {v : Value} {a b : Bool} (h : a = b) : Ending.returned (.tuple #[v, .bool a]) = .returned (.tuple #[v, .bool b]) := by rw [h]
end Go.Proofs.YticjhlbmdjijnaaGreatDoor
