/- The contracts of seg's small functions: unknown, New, Free, Gen. No condition. -/
import Derived.Test.YtdlcngmcjidomaaDoorWE
import Derived.Test.YtdlcngmcjidomaaDoorGSM
namespace Go.Proofs.YtdlcngmcjidomaaDoor
set_option linter.unusedSimpArgs false
set_option linter.unusedVariables false
open Go.RowKit

def segV (g : Nat) (t : SegSt) : Array Value := #[.pointer (some ⟨g, 0, none⟩), .int .i64 (t.first : Int), .int .i64 (t.n : Int), .int .u32 (t.gen : Int), .int .i64 (t.fin : Int), .int .u64 (t.top : Int)]
abbrev segB (h g : Nat) (t : SegSt) : WBk := (h, 67, segV g t)
theorem segV4 (g : Nat) (t : SegSt) (k : Nat) : (segV g t).setIfInBounds 4 (.int .i64 (k : Int)) = segV g { t with fin := k } := rfl
theorem segV5 (g : Nat) (t : SegSt) (k : Nat) : (segV g t).setIfInBounds 5 (.int .u64 (k : Int)) = segV g { t with top := k } := rfl
theorem segV_unk (g : Nat) (t : SegSt) : ((segV g t).setIfInBounds 4 (.int .i64 0)).setIfInBounds 5 (.int .u64 4294967295) = segV g t.unknown := rfl
/-- A segment that may be. -/
structure SegSt.Ok (s : DSt) (t : SegSt) : Prop where
  n1 : 1 ≤ t.n
  fits : t.first + t.n ≤ s.sure.length
  fin : t.fin ≤ t.n
  top : t.top ≤ 4294967295
  gen : t.gen < 4294967296

section
variable {w0 w w' : World} {g h : Nat} {s : DSt} {t : SegSt} {bl : List WBk} {ys : List WRow} {rd : List BEl}
set_option maxRecDepth 100000 in
theorem unknown_any (B : Blk w h 67 (segV g t)) :
    Calls Tryd.prog 32 #[.pointer (some ⟨h, 0, none⟩)] w fun e w' => (∃ v, e = .returned v) ∧ w' = (w.setCell ⟨h, 4, none⟩ (.int .i64 0)).setCell ⟨h, 5, none⟩ (.int .u64 4294967295) := by
  have f4 := B.frozen 4
  have f5 := B.frozen 5
  have c4 : w.cell? ⟨h, 4, none⟩ = some (.int .i64 (t.fin : Int)) := B.cell 4
  have c5 : w.cell? ⟨h, 5, none⟩ = some (.int .u64 (t.top : Int)) := B.cell 5
  clear B
  go_enter Tryd.func32, Tryd.ntmps32
  go_wp2_with fail
  go_end0
  exact ⟨⟨_, rfl⟩, rfl⟩
theorem WE.setEq (E : WE w0 w g s bl ys rd) {bl' : List WBk} (h : bl = bl') : WE w0 w g s bl' ys rd := h ▸ E
theorem unknown_we (E : WE w0 w g s bl ys rd) (i : Nat) (hi : bl[i]? = some (segB h g t)) :
    Calls Tryd.prog 32 #[.pointer (some ⟨h, 0, none⟩)] w fun e w' => (∃ v, e = .returned v) ∧ WE w0 w' g s (bl.set i (segB h g t.unknown)) ys rd := by
  refine (unknown_any (E.b i hi)).mono fun e w' ⟨he, hw⟩ => ⟨he, ?_⟩
  subst hw
  have hil := (List.getElem?_eq_some_iff.1 hi).1
  have E1 := E.set i 4 hi (.int .i64 0)
  have E2 := E1.set i 5 (List.getElem?_set_self hil) (.int .u64 4294967295)
  rw [List.set_set, segV_unk] at E2
  exact E2
set_option maxRecDepth 100000 in
theorem free_any (B : Blk w h 67 (segV g t)) (hf : t.fin ≤ t.n) (hn : t.n ≤ 512) :
    Calls Tryd.prog 16 #[.pointer (some ⟨h, 0, none⟩)] w fun e w' => e = .returned (.int .i64 ((t.n - t.fin : Nat) : Int)) ∧ ∃ q, w' = w.drewN q := by
  have c2 : w.cell? ⟨h, 2, none⟩ = some (.int .i64 (t.n : Int)) := B.cell 2
  have c4 : w.cell? ⟨h, 4, none⟩ = some (.int .i64 (t.fin : Int)) := B.cell 4
  have hr : IntKind.i64.wrap ((t.n : Int) - (t.fin : Int)) = ((t.n - t.fin : Nat) : Int) := by rw [IntWalk.i64_in _ (by omega)]; omega
  clear B hf hn
  go_enter Tryd.func16, Tryd.ntmps16
  go_wp2_with (go_quiet (fail))
  go_ret
  exact ⟨rfl, _, rfl⟩
set_option maxRecDepth 100000 in
theorem gen_any (B : Blk w h 67 (segV g t)) :
    Calls Tryd.prog 30 #[.pointer (some ⟨h, 0, none⟩)] w fun e w' => e = .returned (.int .u32 (t.gen : Int)) ∧ w' = w := by
  have c3 : w.cell? ⟨h, 3, none⟩ = some (.int .u32 (t.gen : Int)) := B.cell 3
  clear B
  go_enter Tryd.func30, Tryd.ntmps30
  go_wp2_with fail
  go_ret
  exact ⟨rfl, rfl⟩
set_option maxRecDepth 100000 in
set_option maxHeartbeats 1600000 in
theorem segnew_we (E : WE w0 w g s bl ys rd) (first n gen : Nat) (hn : 1 ≤ n) (hf : first + n ≤ s.sure.length) (hg : gen < 4294967296) :
    Calls Tryd.prog 12 #[.pointer (some ⟨g, 0, none⟩), .int .i64 (first : Int), .int .i64 (n : Int), .int .u32 (gen : Int)] w fun e w' => ∃ h, e = .returned (.tuple #[.pointer (some ⟨h, 0, none⟩), .int .i64 0]) ∧ w.heap.size ≤ h ∧ WE w0 w' g s (segB h g ⟨first, n, gen, 0, 4294967295⟩ :: bl) ys rd ∧ Below w.heap.size w w' := by
  have hm := E.wf.most
  obtain ⟨T, D, _⟩ := E.at_
  have hsec := sectors_any D
  obtain ⟨L, hL⟩ : ∃ L, s.sure.length = L := ⟨_, rfl⟩
  rw [hL] at hm hf hsec
  have q1 : ¬ (n : Int) < 1 := by omega
  have q1d : decide ((n : Int) < 1) = false := decide_eq_false q1
  have q2 : ¬ (first : Int) < 0 := by omega
  have q2d : decide ((first : Int) < 0) = false := decide_eq_false q2
  have q3 : ¬ (L : Int) < (first : Int) := by omega
  have q3d : decide ((L : Int) < (first : Int)) = false := decide_eq_false q3
  have hw : IntKind.i64.wrap ((L : Int) - (first : Int)) = ((L - first : Nat) : Int) := by rw [IntWalk.i64_in _ (by omega)]; omega
  have hw' : wrap64 ((L : Int) - (first : Int)) = ((L - first : Nat) : Int) := by rw [IntWalk.wrap64_in _ (by omega)]; omega
  have q4 : ¬ ((L - first : Nat) : Int) < (n : Int) := by omega
  have q4d : decide (((L - first : Nat) : Int) < (n : Int)) = false := decide_eq_false q4
  have E1 := E.add 67 #[.pointer (some ⟨g, 0, none⟩), .int .i64 (first : Int), .int .i64 (n : Int), .int .u32 (gen : Int), .int .i64 0, .int .u64 0] (by decide)
  have E3 := (E.add 67 (segV g ⟨first, n, gen, 0, 4294967295⟩) (by decide))
  have HF := Lib.hid (And.intro E3 ((Below.refl _ w).alloc (Nat.le_refl _) (.cells (segV g ⟨first, n, gen, 0, 4294967295⟩) 67)))
  have HE := Lib.hid (And.intro E1 ((Below.refl _ w).alloc (Nat.le_refl _) (.cells #[.pointer (some ⟨g, 0, none⟩), .int .i64 (first : Int), .int .i64 (n : Int), .int .u32 (gen : Int), .int .i64 0, .int .u64 0] 67)))
  clear E E1 E3 hm hf hL D
  go_enter Tryd.func12, Tryd.ntmps12
  go_wp2_with fail
  refine hsec.mono ?_; rintro e w1 ⟨rfl, rfl⟩
  go_wp2_with fail
  refine hsec.mono ?_; rintro e w1 ⟨rfl, rfl⟩
  clear hsec
  go_wp2_with fail
  refine (unknown_any (t := ⟨first, n, gen, 0, 0⟩) (HE.out.1.b 0 rfl)).mono ?_; rintro e w2 ⟨⟨_, rfl⟩, rfl⟩
  clear HE
  go_wp2_with fail
  go_ret2
  exact ⟨w.heap.size, rfl, Nat.le_refl _, HF.out.1, HF.out.2⟩
set_option maxRecDepth 100000 in
set_option maxHeartbeats 1600000 in
theorem segnew_no {T : List Nat} (D : DiskAt w T g s) (first n gen : Nat) (hn : 1 ≤ n) (hf : s.sure.length < first + n) (hfl : first ≤ s.sure.length) (hnb : n ≤ 512) :
    Calls Tryd.prog 12 #[.pointer (some ⟨g, 0, none⟩), .int .i64 (first : Int), .int .i64 (n : Int), .int .u32 (gen : Int)] w fun e w' => e = .returned (.tuple #[.pointer none, .int .i64 1]) ∧ w' = w := by
  have hm := D.wf.most
  have hsec := sectors_any D
  obtain ⟨L, hL⟩ : ∃ L, s.sure.length = L := ⟨_, rfl⟩
  rw [hL] at hm hf hsec hfl
  have q1 : ¬ (n : Int) < 1 := by omega
  have q1d : decide ((n : Int) < 1) = false := decide_eq_false q1
  have q2 : ¬ (first : Int) < 0 := by omega
  have q2d : decide ((first : Int) < 0) = false := decide_eq_false q2
  have q3 : ¬ (L : Int) < (first : Int) := by omega
  have q3d : decide ((L : Int) < (first : Int)) = false := decide_eq_false q3
  have hw : IntKind.i64.wrap ((L : Int) - (first : Int)) = ((L - first : Nat) : Int) := by rw [IntWalk.i64_in _ (by omega)]; omega
  have hw' : wrap64 ((L : Int) - (first : Int)) = ((L - first : Nat) : Int) := by rw [IntWalk.wrap64_in _ (by omega)]; omega
  have q4 : ((L - first : Nat) : Int) < (n : Int) := by omega
  have q4d : decide (((L - first : Nat) : Int) < (n : Int)) = true := decide_eq_true q4
  clear hm hf hL D hfl
  go_enter Tryd.func12, Tryd.ntmps12
  go_wp2_with fail
  refine hsec.mono ?_; rintro e w1 ⟨rfl, rfl⟩
  go_wp2_with fail
  refine hsec.mono ?_; rintro e w1 ⟨rfl, rfl⟩
  clear hsec
  go_wp2_with fail
  go_ret2
  exact ⟨rfl, rfl⟩
end
end Go.Proofs.YtdlcngmcjidomaaDoor
